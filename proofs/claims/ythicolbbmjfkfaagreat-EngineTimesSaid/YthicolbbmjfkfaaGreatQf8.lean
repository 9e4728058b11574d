import Derived.Test.YthicolbbmjfkfaaGreatQf6
import Derived.Test.YthicolbbmjfkfaaGreatQf5
import Derived.Defers
set_option linter.unusedVariables false
set_option linter.unusedSimpArgs false
set_option maxRecDepth 100000
set_option maxHeartbeats 1600000
namespace Go.Proofs.YthicolbbmjfkfaaGreat.Em
open Go.ChangeShapes Go.WideShapes Go.ChangeAt Go.RowKit En
variable {A:az} {D:St} {w:World}
theorem wG (hR:aF A D w) (s:Nat) (c:dY) (hc:D.calls.getD s none=some c) (r:mo) (a:Option Addr) (pn pc:Nat) (vp:Value) (hvp:vp=.slice a pn pc)
 (hp:(vp=A.aX s∧r.aL=c.r.aL)∨(vp=.slice none 0 0∧r.aL=[])):
 zk 141 #[R A.V 0,R (A.bc s) 0,.agg #[I r.e,I r.value,vp,I r.over,I r.aI]] w (lF A w s (D.finish s r,none)):=by
 obtain⟨r1,g1,f0⟩:=dz hR #[I r.e,I r.value,vp,I r.over,I r.aI] 46;obtain⟨r2,g2⟩:=r1.P9 hc r vp hp;have hc2:(D.aM s {c with r:=r}).calls.getD s none=some {c with r:=r}:=by rw[di (bR hc),aW rfl]
 obtain⟨r3,g3⟩:=r2.rV hc2 {c with r:=r,over:=true} 11 (.bool true) rfl rfl;have c11:=r2.call hc2 11 (v:=.bool c.over) rfl;have SC:=r2.pX hc2 11;have ht:(w.alloc (.cells #[I r.e,I r.value,vp,I r.over,I r.aI] 46)).there (A.bc s) 5 5:=by
  intro j hj;refine⟨?_,r1.pX hc _⟩
  match j,hj with
  |0,_=>rw[r1.call hc 5 rfl];rfl
  |1,_=>rw[r1.call hc 6 rfl];rfl
  |2,_=>rw[r1.call hc 7 rfl];rfl
  |3,_=>rw[r1.call hc 8 rfl];rfl
  |4,_=>rw[r1.call hc 9 rfl];rfl
 have b0:=f0.cell 0 (v:=I r.e) rfl;have b1:=f0.cell 1 (v:=I r.value) rfl;have b2:=f0.cell 2 (v:=vp) rfl;have b3:=f0.cell 3 (v:=I r.over) rfl;have b4:=f0.cell 4 (v:=I r.aI) rfl;have e:D.finish s r=(D.aM s {c with r:=r}).aM s {c with r:=r,over:=true}:=by
  unfold St.finish St.aM;rw[bC hc];simp
 rw[e];have HR:Hid (∀ ws,ws=(w.alloc (.cells #[I r.e,I r.value,vp,I r.over,I r.aI] 46)).setCells (A.bc s) 5 [I r.e,I r.value,vp,I r.over,I r.aI]->zB ws (A.bc s) 11 c.over∧ws.frozen? (J (A.bc s) 11)=false∧aF (A.sj s vp) ((D.aM s {c with r:=r}).aM s {c with r:=r,over:=true}) (ws.setCell (J (A.bc s) 11) (.bool true))∧Grow A.L w A.L (ws.setCell (J (A.bc s) 11) (.bool true))):=by
  rintro ws rfl;exact⟨c11,SC,r3,(g1.trans g2).trans g3⟩
 have HT:=U ht;clear hR hc r1 g1 f0 r2 g2 hc2 r3 g3 ht e hp c11 SC;subst hvp;go_enter Tryz.func141,Tryz.ntmps141;go_wp2_with (refine wpList_store_mid rfl 46 (.tmp 10) (.tmp 8) rfl (A.bc s) 5 #[I r.e,I r.value,.slice a pn pc,I r.over,I r.aI] rfl rfl HT.out (by kernel_rfl) (by simp[Value.oneCell']) ?_;generalize hws:World.setCells _ _ _ _=ws;obtain⟨k1,k2,k3⟩:=HR.out ws hws.symm;have HK:=U k3;clear k3 hws);go_ret;exact⟨_,_,rfl,HK.out.1,HK.out.2,⟨rfl,rfl,rfl,rfl,rfl,rfl,rfl,rfl,rfl,rfl,rfl,fun _ _=>rfl,fun k Y=>bJ _ _ Y⟩,rfl⟩
theorem SE (hR:aF A D w) (s:Nat) (c:dY) (hc:D.calls.getD s none=some c) (r:mo) (b0 b1 b2:Nat) (B0:aP A.L w b0 (R A.V 0)) (B1:aP A.L w b1 (R (A.bc s) 0)) (B2:mr (kp A D s) A.L w b2 r):
 zk 140 #[R b0 0,R b1 0,R b2 0] w (lF A w s (D.run s (.fin r))):=by
 obtain⟨vp,TT,F2,hp⟩:=B2;have hps:(kp A D s).ps=c.r.aL:=by show (D.c s).r.aL=_;rw[bC hc]
 rw[hps] at hp;have hform:∃ a n cap,vp=.slice a n cap:=by
  rcases hp with ⟨h1,_⟩|⟨h1,_⟩
  . have aY:=hR.mem.all (.aL s)
    rw[iM hc] at aY;obtain⟨a,cap,h2,_⟩:=Ow.bO aY.1;exact⟨a,_,cap,h1.trans h2⟩
  . exact⟨none,0,0,h1⟩
 obtain⟨a,pn,pc,hvp⟩:=hform;have HF:=U (wG hR s c hc r a pn pc vp hvp hp);have c0:=B0.cell;have c1:=B1.cell;have d0:=F2.cell 0 (v:=I r.e) rfl;have d1:=F2.cell 1 (v:=I r.value) rfl;have d2:=F2.cell 2 (v:=vp) rfl;have d3:=F2.cell 3 (v:=I r.over) rfl;have d4:=F2.cell 4 (v:=I r.aI) rfl;clear hR hc B0 B1 F2 hp hps;subst hvp;go_enter Tryz.func140,Tryz.ntmps140;go_wp2_with (go_at_call 141;refine HF.out.mono ?_;rintro e w2 ⟨A2,v,rfl,p1,p2,p3,rfl⟩);go_ret;exact⟨A2,_,rfl,p1,p2,p3,rfl⟩
def Told (A:az) (w:World) (s:Nat) (bF:St):Ending->World->Prop:=fun e E=>e=.returned (.tuple #[])∧∃ A',aF A' bF E∧Grow A.L w A'.L E∧bU A A' s∧A'.bx=A.bx∧A'.aX=A.aX
theorem II (hR:aF A D w) (s:Nat) (t:bL) (ht:D.ai.getD s none=some t) (e:Ev) (kk tt rr:Int) (hcs:pU e (.slice none 0 0)=[I kk,I tt,zu 0,I 0,I 0,I 0,I 0,I 0,I 0,.slice none 0 0,I 0,I rr]) (hp:e.res.aL=[]) (hn:D.aQ.length<1000000) (b0 b1 b2:Nat) (B0:aP A.L w b0 (R (A.bt s) 0)) (B1:aP A.L w b1 (R A.V 0)) (TT:TypeId) (X2:Fix A.L w b2 (.cells #[I kk,I tt,zu 0,I 0,I 0,I 0,I 0,I 0,I 0,.slice none 0 0,I 0,I rr] TT)):
 zk 147 #[R b0 0,R b1 0,R b2 0] w (Told A w s (D.event e)):=by
 have c0:=B0.cell;have ZT:w.cell? (J (A.bt s) 13)=zb (A.lX s):=hR.fI ht 13 rfl;have JH:=hR.vP ht 13;obtain⟨r1,g1⟩:=hR.Nc ht true;have ZU:=(B1.grow g1).cell;have IJ:=X2.grow g1;have x0:=IJ.cell 0 (v:=I kk) rfl;have x1:=IJ.cell 1 (v:=I tt) rfl;have x2:=IJ.cell 2 (v:=zu 0) rfl;have x3:=IJ.cell 3 (v:=I 0) rfl;have x4:=IJ.cell 4 (v:=I 0) rfl;have x5:=IJ.cell 5 (v:=I 0) rfl;have x6:=IJ.cell 6 (v:=I 0) rfl;have x7:=IJ.cell 7 (v:=I 0) rfl;have x8:=IJ.cell 8 (v:=I 0) rfl;have x9:=IJ.cell 9 (v:=.slice none 0 0) rfl;have RL:=IJ.cell 10 (v:=I 0) rfl;have ZV:=IJ.cell 11 (v:=I rr) rfl;have he:=mU r1 s e kk tt 0 0 0 0 0 0 0 0 rr none 0 0 hcs (by rw[hp];exact lC.nil _ _) hn;have HE:=U (zA he g1);clear hR ht B0 B1 X2 IJ r1 g1 he hcs hp hn;go_enter Tryz.func147,Tryz.ntmps147;go_wp2_with (go_at_call 50;refine HE.out.1.mono ?_;rintro e' w2 ⟨rfl,A2,q1,q2,q3,q4,q5⟩)
 go_end0
 exact⟨rfl,A2,q1,HE.out.2.trans q2,⟨q3.bf,q3.ba,q3.bp,q3.bt,q3.bm,q3.bc,q3.bE,q3.bH,q3.eP,q3.mp,q3.mt,q3.bx,q3.aX⟩,q4,q5⟩
theorem CY (hR:aF A D w) (s:Nat) (t:bL) (ht:D.ai.getD s none=some t) (hm:A.mt s=0) (e:Ev) (kk tt rr:Int) (hcs:pU e (.slice none 0 0)=[I kk,I tt,zu 0,I 0,I 0,I 0,I 0,I 0,I 0,.slice none 0 0,I 0,I rr]) (hp:e.res.aL=[]) (hn:D.aQ.length<1000000):
 zk 125 #[R A.V 0,R (A.bt s) 0,.agg #[I kk,I tt,zu 0,I 0,I 0,I 0,I 0,I 0,I 0,.slice none 0 0,I 0,I rr]] w (Told A w s (D.dI s e)):=by
 obtain⟨r3,g3,f0,f1,f2⟩:=jl hR #[R A.V 0] 32 #[R (A.bt s) 0] 100 #[I kk,I tt,zu 0,I 0,I 0,I 0,I 0,I 0,I 0,.slice none 0 0,I 0,I rr] 62;have a1:=f1.cell 0 (v:=R (A.bt s) 0) rfl
 by_cases ho:t.over=true
 . have e0:D.dI s e=D:=by unfold St.dI;rw[cK ht,aW ho]
   rw[e0];have SF:=r3.fI ht 10 (v:=.int .u32 1) (by simp[fw,ji,ho]);have HD:=U (fun fv=>GK (J (A.bt s) 10) fv _ SF);have HR:=U (zA r3 g3);clear hR ht r3 g3 f0 f1 f2 hm hcs hp hn ho e0 SF;go_enter Tryz.func125,Tryz.ntmps125;go_wp2_with (go_at_call 146;refine (HD.out _).mono ?_;rintro e' w2 ⟨rfl,rfl⟩)
   go_end0
   exact⟨rfl,A,HR.out.1,HR.out.2,bU.refl _ _,rfl,rfl⟩
 . have ho':t.over=false:=by simpa using ho
   have e0:D.dI s e=(D.bM s {t with over:=true}).event e:=by unfold St.dI;rw[cK ht,bu ho]
   rw[e0];have SF:=r3.fI ht 10 (v:=.int .u32 0) (by simp[fw,ji,ho']);have Xl:=r3.fI ht 11 (v:=.int .i32 0) (by simp[fw,ji,hm]);have PH:=r3.vP ht 10;have SC:=r3.vP ht 11;obtain⟨r4,g4⟩:=r3.Gy ht 1;have hf:=II r4 s t ht e kk tt rr hcs hp hn (w.heap.size+1) w.heap.size (w.heap.size+1+1) (f1.box.grow g4) (f0.box.grow g4) _ (f2.grow g4)
   have hd := Cq (A.bt s) 10 147 #[.pointer (some ⟨w.heap.size + 1, 0, none⟩), R w.heap.size 0, .pointer (some ⟨w.heap.size + 1 + 1, 0, none⟩)] _ _ SF Xl PH SC (EP _) hf (by
     rintro E ⟨A',q1,q2,q3,q4,q5⟩
     have ht':(D.event e).ai.getD s none=some t:=ht
     have b10:=q1.fI ht' 10 (v:=.int .u32 0) (by simp[fw,ji,ho'])
     have b11:=q1.fI ht' 11 (v:=.int .i32 1) (by simp[fw,ji,q3.mt])
     have PL:=q1.vP ht' 10
     have UG:=q1.vP ht' 11
     rw[q3.bt] at b10 b11 PL UG
     exact⟨b10,b11,PL,UG⟩)
   have HD:=U hd;have HR:=U (zA g3 g4);have HT:=U (zA ht hm);clear hR ht r3 g3 f0 f1 f2 hm hcs hp hn ho ho' e0 SF Xl PH SC r4 g4 hf hd;go_enter Tryz.func125,Tryz.ntmps125;go_wp2_with (go_at_call 146;refine HD.out.mono ?_;rintro e' w2 ⟨rfl,w3,⟨A',q1,q2,q3,q4,q5⟩,rfl⟩)
   go_end0
   have ht':(D.event e).ai.getD s none=some t:=HT.out.1;obtain⟨k1,g5⟩:=q1.drew.Nf ht';have ht2:((D.event e).bM s {t with over:=true}).ai.getD s none=some {t with over:=true}:=by rw[dB (dA ht'),aW rfl]
   obtain⟨k2,g6⟩:=k1.Gy ht2 0;have gg:=((((HR.out.1.trans HR.out.2).trans q2).trans (Grow.drew _ _)).trans g5).trans g6;have eb:A'.bt s=A.bt s:=by rw[q3.bt]
   rw[eb] at k2 gg;refine⟨rfl,_,k2,gg,⟨q3.bf,q3.ba,q3.bp,q3.bt,q3.bm,q3.bc,q3.bE,q3.bH,q3.eP,q3.mp,?_,q3.bx,q3.aX⟩,q4,q5⟩;show (fun k=>if k=s then 0 else A'.mt k)=A.mt;rw[q3.mt]
   funext k
   show (if k=s then 0 else if k=s then 1 else A.mt k)=A.mt k
   by_cases Y:k=s
   . rw[aW Y,Y,HT.out.2]
   . rw[bu Y,bu Y]
theorem AQ (h:aF A D w) (i n:Nat) (z y:Int) (hz:z=(i:Int)) (hy:y=(n:Int)) (hi:i<D.words.length) (hc:D.count<4000000000000000000):
 zk 47 #[R A.ba 0,I z,zu y] w (uL A w (D.put i n) (.tuple #[])):=by subst hz hy;exact gy h i n hi hc
theorem o6 (l:List yJ):(l8 l).length=l.length*3:=by
 induction l with
 |nil=>rfl
 |cons x l ih=>simp only[l8,List.flatMap_cons,jb,List.length_cons,List.length_nil] at ih ⊢;omega
theorem yZ (hR:aF A D w) (s:Nat) (l:List yJ) (lv:Value) (hl:iJ A.L w 3 lv (l8 l)) (r:mo) (vp:Value) (hp:(vp=A.aX s∧r.aL=(D.c s).r.aL)∨(vp=.slice none 0 0∧r.aL=[])):
 zk 128 #[R A.V 0,R (A.bt s) 0,R (A.bc s) 0,lv,.agg #[I r.e,I r.value,vp,I r.over,I r.aI]] w (bG A w s (D,.turns l r)):=by
 have hl0:=hl;obtain⟨a,n,cap,rfl,hlen,hcap,hmax,hrow⟩:=hl;rw[o6] at hlen;have FA:=U (jL hR #[R A.V 0] 32 #[R (A.bt s) 0] 100 #[R (A.bc s) 0] 105 #[.slice a n cap] 232 #[I r.e,I r.value,vp,I r.over,I r.aI] 46);have HL:=U (zA hl0 hp);clear hR hp hl0 hcap hmax hrow
 cases l with
 |nil=>
  obtain rfl:n=0:=by simp at hlen;omega
  clear hlen;go_enter Tryz.func128,Tryz.ntmps128;go_wp2_with fail;go_ret;obtain⟨r1,r2,f0,f1,f2,f3,f4⟩:=FA.out;exact⟨A,_,rfl,r1,r2,bU.refl _ _,_,_,_,_,rfl,f0.box,f1.box,f2.box,_,_,f4,HL.out.2⟩
 |cons x l=>
  have hn0:n≠0:=by simp at hlen;omega
  have d1:((n:Int)==0)=false:=by simp;omega
  have d2:((n:Int)=0)=False:=by simp;omega
  have d3:(n=0)=False:=by simp;omega
  clear hlen hn0;go_enter Tryz.func128,Tryz.ntmps128;go_wp2_with fail;go_ret;obtain⟨r1,r2,f0,f1,f2,f3,f4⟩:=FA.out;exact⟨A,_,rfl,r1,r2,bU.refl _ _,_,_,_,_,_,rfl,⟨_,f3.box,HL.out.1.grow r2⟩,f0.box,f1.box,f2.box,_,_,f4,HL.out.2⟩
theorem Kn (hR:aF A D w) (s:Nat) (t:bL) (ht:D.ai.getD s none=some t) (c:dY) (hc:D.calls.getD s none=some c) (r:mo) (hs:s<8) (aN:D.count<4000000000000000000) (b0 b1 b2 b3:Nat)
 (B0:aP A.L w b0 (R A.V 0)) (B1:aP A.L w b1 (R (A.bt s) 0)) (B2:aP A.L w b2 (R (A.bc s) 0)) (B3:mr (kp A D s) A.L w b3 r):
 zk 149 #[R b0 0,R b1 0,R b2 0,R b3 0] w (lF A w s (D.run s (.turns [] r))):=by
 obtain⟨vp,TR,FR,hp⟩:=B3;have hps:(kp A D s).ps=c.r.aL:=by show (D.c s).r.aL=_;rw[bC hc]
 rw[hps] at hp;have hform:∃ a n cap,vp=.slice a n cap:=by
  rcases hp with ⟨h1,_⟩|⟨h1,_⟩
  . have aY:=hR.mem.all (.aL s)
    rw[iM hc] at aY;obtain⟨a,cap,h2,_⟩:=Ow.bO aY.1;exact⟨a,_,cap,h1.trans h2⟩
  . exact⟨none,0,0,h1⟩
 obtain⟨va,vn,vc,hvp⟩:=hform;have c0:=B0.cell;have c1:=B1.cell;have c2:=B2.cell;have e2:=hR.z2;have t2:w.cell? (J (A.bt s) 2)=zt s:=hR.fI ht 2 rfl;have n1:IntKind.i64.wrap (1+(s:Int))=1+(s:Int):=by rw[je];omega
 have HL:=U (AQ hR.drew (1+s) 0 (1+(s:Int)) 0 (by omega) rfl (by rw[hR.nw];omega) aN);have HG:=zG A.L w;have HK:Hid (∀ E,aF A D E->Grow A.L w A.L E->zS E b0 0 A.V 0∧zS E A.V 2 A.ba 0∧zS E b1 0 (A.bt s) 0∧zT E (A.bt s) 2 s):=fun E r g=>⟨(B0.grow g).cell,r.bT 2 rfl,(B1.grow g).cell,r.fI ht 2 rfl⟩
 have HB:Hid (∀ H,aF A (D.put (1+s) 0) H->Grow A.L w A.L H->zk 141 #[R A.V 0,R (A.bc s) 0,.agg #[I r.e,I r.value,vp,I r.over,I r.aI]] H (lF A H s ((D.put (1+s) 0).finish s r,none))∧zS H b0 0 A.V 0∧zS H b2 0 (A.bc s) 0∧zT H b3 0 r.e∧zT H b3 1 r.value∧H.cell? (J b3 2)=some vp∧zT H b3 3 r.over∧zT H b3 4 r.aI):=by
  intro H q g;have fr:=FR.grow g;exact⟨wG q s c hc r va vn vc vp hvp hp,(B0.grow g).cell,(B2.grow g).cell,fr.cell 0 rfl,fr.cell 1 rfl,fr.cell 2 rfl,fr.cell 3 rfl,fr.cell 4 rfl⟩
 have aU:D.run s (.turns [] r)=((D.put (1+s) 0).finish s r,none):=rfl;rw[aU];clear hR ht hc hs aN B0 B1 B2 FR hp hps aU;subst hvp;go_enter Tryz.func149,Tryz.ntmps149;go_wp2_with fail;refine wp_region_still_tail 9 (by kernel_rfl) (by kernel_rfl) ?_;simp only[jZ,j6,kg,kr]
 repeat still_step
 refine wpStill_nil ?_;change wpList _ _ _ _ _ w.drew;generalize w.drew=wd at*;go_wp2_with (first|(go_at_call 47;refine HL.out.mono ?_;rintro e H ⟨rfl,q1,q2⟩;have g1:=HG.out.trans q2;obtain⟨hf,d0,d2,k0,k1,k2,k3,k4⟩:=HB.out H q1 g1;have HQ:=U (zA hf g1);clear q1 q2 g1 hf)|(go_at_call 141;refine HQ.out.1.mono ?_;rintro e w2 ⟨A2,v,rfl,p1,p2,p3,rfl⟩))
 trace_state
 go_ret;exact⟨A2,_,rfl,p1,HQ.out.2.trans p2,p3,rfl⟩
theorem Ko (hR:aF A D w) (s:Nat) (c:dY) (hc:D.calls.getD s none=some c) (x:yJ) (l:List yJ) (r:mo) (hx:x.at_<D.words.length) (aN:D.count<4000000000000000000) (b0 b1 b2 b3 b4:Nat)
 (B0:nJ A.L w b0 (x::l)) (B1:aP A.L w b1 (R A.V 0)) (B2:aP A.L w b2 (R (A.bt s) 0)) (B3:aP A.L w b3 (R (A.bc s) 0)) (B4:mr (kp A D s) A.L w b4 r):
 zk 150 #[R b0 0,R b1 0,R b2 0,R b3 0,R b4 0] w (lF A w s (D.run s (.turns (x::l) r))):=by
 obtain⟨vp,TR,FR,hp⟩:=B4;have hps:(kp A D s).ps=c.r.aL:=by show (D.c s).r.aL=_;rw[bC hc]
 rw[hps] at hp;have hform:∃ a n cap,vp=.slice a n cap:=by
  rcases hp with ⟨h1,_⟩|⟨h1,_⟩
  . have aY:=hR.mem.all (.aL s)
    rw[iM hc] at aY;obtain⟨a,cap,h2,_⟩:=Ow.bO aY.1;exact⟨a,_,cap,h1.trans h2⟩
  . exact⟨none,0,0,h1⟩
 obtain⟨va,vn,vc,hvp⟩:=hform;obtain⟨lv,X0,R0⟩:=B0;obtain⟨a,n,cap,rfl,hlen,hcap,hmax,hrow⟩:=R0;rw[o6] at hlen;obtain rfl:n=l.length+1:=by simp at hlen;omega
 obtain⟨g,off,rfl,UH,NR,hcs⟩:=hrow.resolve_left (by omega);have c0:=X0.cell;have c1:=B1.cell;have c2:=B2.cell;have c3:=B3.cell;have e2:=hR.z2;have l0:w.cell? (J g off)=zt x.at_:=hcs 0 (by omega);have l1:w.cell? (J g (off+1))=zv x.old:=hcs 1 (by omega);have l2:w.cell? (J g (off+2))=zv x.new:=hcs 2 (by omega);obtain⟨r1,g1,f0⟩:=dz hR #[I x.at_,zu x.old,zu x.new] 234;have y0:=f0.cell 0 (v:=I x.at_) rfl;have y1:=f0.cell 1 (v:=zu x.old) rfl;have y2:=f0.cell 2 (v:=zu x.new) rfl;have z1:=(B1.grow g1).cell;have ze:=r1.bT 2 (v:=R A.ba 0) rfl;obtain⟨a',ha'⟩:∃ a',a'=if cap=1 then (some ((J g off):Addr)) else some (J g (off+3)):=⟨_,rfl⟩
 have hsl:∀ E,(Instr.slice 232 (.slice (some (J g off)) (l.length+1) cap) (some (I 1)) none none).run Tryz.prog E=.ok (.slice a' l.length (cap - 1)) E:=by
  intro E;have he:Tryz.prog.elem 232=234:=by kernel_rfl
  have hz:(sizeOf 234).run Tryz.prog E=.ok 3 E:=by kernel_rfl
  rw[run_slice_l (P:=Tryz.prog) E 232 (some (J g off)) (l.length+1) cap (by kernel_rfl) .i64 1 (by decide) (by omega),he,hz,ha']
  by_cases h1:cap=1
  . simp[Result.andThen,sliced,h1]
  . simp[Result.andThen,sliced,h1,Addr.add]
 have HB : Hid (∀ bF w2, aF A bF w2 -> bF.calls = D.calls -> Grow A.L w A.L w2 -> w2.cell? (J b0 0) = some (.slice (some (J g off)) (l.length + 1) cap) ∧ zS w2 b1 0 A.V 0 ∧ zS w2 b2 0 (A.bt s) 0 ∧ zS w2 b3 0 (A.bc s) 0 ∧ zT w2 b4 0 (r.e : Int) ∧ zT w2 b4 1 (r.value : Int) ∧ w2.cell? (J b4 2) = some vp ∧ zT w2 b4 3 (r.over : Int) ∧ zT w2 b4 4 (r.aI : Int) ∧
     zk 128 #[R A.V 0,R (A.bt s) 0,R (A.bc s) 0,.slice a' l.length (cap - 1),.agg #[I r.e,I r.value,vp,I r.over,I r.aI]] w2.drew (bG A w2.drew s (bF,.turns l r))):=by
  intro bF w2 q hcl gr;have fr:=FR.grow gr;have hrow':iJ A.L w2.drew 3 (.slice a' l.length (cap - 1)) (l8 l):=by
   refine⟨_,_,_,rfl,o6 l,by omega,by omega,?_⟩
   by_cases hc1:cap=1
   . exact .inl (by omega)
   refine .inr ⟨g,off+3,by rw[ha',bu hc1],UH,yI NR gr.size,fun j hj=>?_⟩;rw[World.cell?_drew,World.cell?_of_block (w:=w) (a:=(J g (off+3+j))) (gr.block g NR UH),show off+3+j=off+(3+j) by omega,hcs (3+j) (by omega)];simp[l8,Nat.add_comm 3 j]
  have hp':(vp=A.aX s∧r.aL=(bF.c s).r.aL)∨(vp=.slice none 0 0∧r.aL=[]):=by
   have e:bF.c s=c:=by unfold St.c;rw[hcl,hc];rfl
   rw[e];exact hp
  exact⟨(X0.grow gr).cell,(B1.grow gr).cell,(B2.grow gr).cell,(B3.grow gr).cell,fr.cell 0 rfl,fr.cell 1 rfl,fr.cell 2 rfl,fr.cell 3 rfl,fr.cell 4 rfl,yZ q.drew s l _ hrow' r vp hp'⟩
 clear ha';have HG:=U (g1.trans (Grow.drew A.L (w.alloc (.cells #[I x.at_,zu x.old,zu x.new] 234))));have nl:¬ ((l.length:Int)+1<=0):=by omega
 have ZW:(0:Int)<(l.length:Int)+1:=by omega
 by_cases ho:x.old=0
 . have HL:=U (gy r1.drew x.at_ x.new hx aN)
   have aU:D.run s (.turns (x::l) r)=(D.put x.at_ x.new,some (.turns l r)):=by simp only[St.run,aW ho]
   rw[aU];have HB1:=U (fun w2 q gr=>HB.out (D.put x.at_ x.new) w2 q rfl gr);have d1:((x.old:Int)==0)=true:=by simpa using ho
   have d2:((x.old:Int)=0)=True:=by simpa using ho
   clear hR r1 g1 f0 hc hx aN X0 B1 B2 B3 FR hp hps aU HB ho hlen hcap hmax hrow hcs c1 c2 c3 e2;generalize x.at_=xa at*;generalize x.old=xo at*;generalize x.new=xn at*;subst hvp;go_enter Tryz.func150,Tryz.ntmps150;go_wp2_with fail;generalize w.alloc _=H at*;refine wp_region_still_tail 8 (by kernel_rfl) (by kernel_rfl) ?_;simp only[jZ,j6,kg,kr]
   repeat still_step
   refine wpStill_nil ?_;change wpList _ _ _ _ _ H.drew;generalize H.drew=wd at*;go_wp2_with (go_at_call 47;refine HL.out.mono ?_;rintro e w2 ⟨rfl,q1,q2⟩;have gr:=HG.out.trans q2;obtain⟨d0,d1,d2,d3,k0,k1,k2,k3,k4,hf⟩:=HB1.out w2 q1 gr;have HQ:=U (zA hf (gr.trans (Grow.drew _ _)));clear q1 q2 gr hf);refine wp_region_still_tail 6 (by kernel_rfl) (by kernel_rfl) ?_;simp only[jZ,j6,kg,kr]
   repeat still_step
   refine wpStill_nil ?_;change wpList _ _ _ _ _ w2.drew;generalize w2.drew=wd2 at*;go_wp2_with (go_at_call 128;refine HQ.out.1.mono ?_;rintro e w3 ⟨A2,v,rfl,p1,p2,p3,p4⟩);go_ret;exact⟨A2,v,rfl,p1,HQ.out.2.trans p2,p3,p4⟩
 . have HL:=U (nH r1.drew x.at_ x.old x.new hx aN)
   have aU:D.run s (.turns (x::l) r)=(D.cB x.at_ x.old x.new,some (.turns l r)):=by simp only[St.run,bu ho]
   rw[aU];have HB1:=U (fun w2 q gr=>HB.out (D.cB x.at_ x.old x.new) w2 q (by unfold St.cB;split<;>rfl) gr);have d1:((x.old:Int)==0)=false:=by simpa using ho
   have d2:((x.old:Int)=0)=False:=by simpa using ho
   clear hR r1 g1 f0 hc hx aN X0 B1 B2 B3 FR hp hps aU HB ho hlen hcap hmax hrow hcs c1 c2 c3 e2;generalize x.at_=xa at*;generalize x.old=xo at*;generalize x.new=xn at*;subst hvp;go_enter Tryz.func150,Tryz.ntmps150;go_wp2_with fail;generalize w.alloc _=H at*;refine wp_region_still_tail 10 (by kernel_rfl) (by kernel_rfl) ?_;simp only[jZ,j6,kg,kr]
   repeat still_step
   refine wpStill_nil ?_;change wpList _ _ _ _ _ H.drew;generalize H.drew=wd at*;go_wp2_with (go_at_call 45;refine HL.out.mono ?_;rintro e w2 ⟨rfl,q1,q2⟩;have gr:=HG.out.trans q2;obtain⟨d0,d1,d2,d3,k0,k1,k2,k3,k4,hf⟩:=HB1.out w2 q1 gr;have HQ:=U (zA hf (gr.trans (Grow.drew _ _)));clear q1 q2 gr hf);refine wp_region_still_tail 6 (by kernel_rfl) (by kernel_rfl) ?_;simp only[jZ,j6,kg,kr]
   repeat still_step
   refine wpStill_nil ?_;change wpList _ _ _ _ _ w2.drew;generalize w2.drew=wd2 at*;go_wp2_with (go_at_call 128;refine HQ.out.1.mono ?_;rintro e w3 ⟨A2,v,rfl,p1,p2,p3,p4⟩);go_ret;exact⟨A2,v,rfl,p1,HQ.out.2.trans p2,p3,p4⟩
theorem jN (a b:List yJ):l8 (a++b)=l8 a++l8 b:=by simp[l8]
theorem PM:(Tryz.prog.info? 234).map (fun i=>(i.zero,i.size,i.bytes))=some (some (.agg #[I 0,zu 0,zu 0]),3,24):=by kernel_rfl
theorem sK {ops:Array Oper} {rest:List Oper} {o:Oper} {a:Act} {Q:Exit->Act->World->Prop} (w:World) (hgd:o.guard=none) (s x:Operand)
 (ho:o.op=.call {callee:=.builtin .append,args:=#[s,x],argTypes:=#[232,232]})
 (w0:World) (Z:Below w0.heap.size w0 w) (av:Option Addr) (m cap:Nat) (xs:List Value) (hs:a.eval s=.slice av m cap) (aY:w.ownsRow w0.heap.size 234 3 (.slice av m cap) m xs) (hm:m<4000000)
 (t0 t1 t2:Int) (hx:a.eval x=.slice (some (J w.heap.size 0)) 1 1)
 (h:∀ AR cap' E,E.ownsRow w0.heap.size 234 3 (.slice AR (m+1) cap') (m+1) (xs++[I t0,zu t1,zu t2])->Below w0.heap.size w0 E->wpList Tryz.prog ops Q rest (a.put o.dst (.slice AR (m+1) cap')) E):
 wpList Tryz.prog ops Q (o::rest) a (w.alloc (.cells #[I t0,zu t1,zu t2] 234)):=by
 obtain⟨ii,hii,hz0,hz1,hz2⟩:=info_parts PM;have hw:=Z.size;have hown':(w.alloc (.cells #[I t0,zu t1,zu t2] 234)).ownsRow w0.heap.size 234 3 (.slice av m cap) m xs:=lV aY fun g hg=>Below.heap_alloc _ _ _ (aY.lt g hg).2
 refine Ow.dZ _ hgd s x 232 ho w0.heap.size 234 ii _ 3 24 Tryz.underlying232 hii hz0 hz1 hz2 rfl (by decide) (.slice av m cap) m xs hs hown' (J w.heap.size 0) 1 1 (by omega) [I t0,zu t1,zu t2] hx rfl (fun j u hu=>Ow.iC w [I t0,zu t1,zu t2] _ _ rfl j u hu) (by intro u hu;simp at hu;rcases hu with rfl|rfl|rfl<;>rfl) (by unfold maxLen;omega) (by omega) (by simp;omega) ?_;intro v' E q1 q2 q3;obtain⟨AR,cap',rfl,_⟩:=Ow.bO q1;exact h AR cap' E q1 ((Z.alloc hw _).grown q2 (by simp;omega) (fun g hg=>(aY.lt g hg).1))
theorem uP {L:eH} {w0 w:World} {av:Option Addr} {m cap:Nat} {xs:List Value} (h:w.ownsRow w0.heap.size 234 3 (.slice av m cap) m xs) (hL:∀ b,w0.heap.size<=b->L b=none):iJ L w 3 (.slice av m cap) xs:=by
 obtain⟨a,c,e,h1,h2,h3⟩:=Ow.bO h;obtain⟨rfl,rfl⟩:av=a∧cap=c:=by simpa using e
 refine⟨av,m,cap,rfl,h.1,h1,by unfold maxLen;omega,?_⟩
 rcases h.2 with ⟨h0,hn⟩|⟨g,cap',cur,hv,Z,hg,hnc,hcm,hcs,htake⟩
 . exact .inl (by first|exact h0|omega)
 . obtain⟨rfl,rfl⟩:av=za g 0∧cap=cap':=by simpa using hv
   refine .inr ⟨g,0,rfl,hL g (h.lt g rfl).1,(h.lt g rfl).2,fun j hj=>?_⟩;rw[Nat.zero_add];exact h.cellAt j hj
theorem CZ (hR:aF A D w) (s:Nat) (l:List yJ) (lv:Value) (hl:iJ A.L w 3 lv (l8 l)) (r:mo) (re rv ro rr:Int) (vp:Value) (hcs:Ck r vp=[I re,I rv,vp,I ro,I rr]) (hp:(vp=A.aX s∧r.aL=(D.c s).r.aL)∨(vp=.slice none 0 0∧r.aL=[])):
 zk 128 #[R A.V 0,R (A.bt s) 0,R (A.bc s) 0,lv,.agg #[I re,I rv,vp,I ro,I rr]] w (bG A w s (D,.turns l r)):=by
 have h:=yZ hR s l lv hl r vp hp;simp only[Ck,List.cons.injEq,Value.int.injEq,true_and,and_true] at hcs;obtain⟨e1,e2,e3,e4⟩:=hcs;rw[e1,e2,e3,e4] at h;exact h
def Fa (D:St) (t:bL):Prop:=∀ F∈t.keys,∃ x,t.cell F=some x∧(x.own=0∨VL D x.own)∧(x.old=0∨VL D x.old)
def mf (t:bL) (F:Nat):List yJ:=
 (if ((t.cell F).getD default).own≠0 then ⟨af ((t.cell F).getD default).own 0,0,t.ay⟩::(if ((t.cell F).getD default).there then [] else [⟨af ((t.cell F).getD default).own 1,0,t.ay⟩]) else [])
 ++(if ((t.cell F).getD default).old≠0 then [⟨af ((t.cell F).getD default).old 1,0,t.ay⟩] else [])
theorem wH (D:St) (t:bL):fG D t=t.keys.flatMap (mf t):=rfl
theorem zf (f:Nat->List yJ) (l:List Nat) (k:Nat) (h:k<l.length):(l.take (k+1)).flatMap f=(l.take k).flatMap f++f (l.getD k 0):=by
 rw[List.take_succ_eq_append_getElem h,List.flatMap_append];simp[List.getD,h]
theorem AU (t:bL) (F:Nat):(mf t F).length<=3:=by
 unfold mf
 repeat' split
 all_goals simp
theorem uQ (f:Nat->List yJ) (hf:∀ k,(f k).length<=3) (l:List Nat):(l.flatMap f).length<=3*l.length:=by
 induction l with
 |nil=>simp
 |cons x l ih=>simp only[List.flatMap_cons,jb,List.length_cons];have:=hf x;omega
theorem tX (D:St) (x:Nat):(D.dw x).ai=D.ai:=by unfold St.dw St.cB;split<;>rfl
theorem Fb (D:St) (x:Nat):(D.dw x).calls=D.calls:=by unfold St.dw St.cB;split<;>rfl
theorem NS (hR:aF A D w) (s:Nat) (t:bL) (ht:D.ai.getD s none=some t) (hen:t.ay<281474976710656) (hid:t.id<=2000) (hrl:t.reads.length<1000000) (aN:D.count<4000000000000000000) (b0 b1 b2:Nat)
 (B0:aP A.L w b0 (R A.V 0)) (B1:aP A.L w b1 (R (A.bt s) 0)) (B2:aP A.L w b2 (R (A.bc s) 0)):
 zk 121 #[R b0 0,R b1 0,R b2 0] w (lF A w s (D.run s .eB)):=by
 have c0:=B0.cell;have c1:=B1.cell;have t4:w.cell? (J (A.bt s) 4)=zv t.ay:=hR.fI ht 4 rfl;have t0:w.cell? (J (A.bt s) 0)=zt t.id:=hR.fI ht 0 rfl;have HC:=U (flip (oF t.ay t.id hen (by omega) w.drew));have hlo:aZ (aV t.ay t.id)=t.id:=by unfold aZ aV;omega
 have HL:=U (vT hR.drew (aV t.ay t.id) (by unfold aV;omega) (by omega) aN);have HG:=zG A.L w;have aU:D.run s .eB=(D.dw (aV t.ay t.id),some (dH t 0)):=by
  have e:(D.dw (aV t.ay t.id)).t s=t:=by unfold St.t;rw[tX,ht];rfl
  simp only[St.run,cK ht,e]
 rw[aU];have HB:Hid (∀ H,aF A (D.dw (aV t.ay t.id)) H->Grow A.L w A.L H->zk 122 #[R A.V 0,R (A.bt s) 0,R (A.bc s) 0,I 0] H (bG A H s (D.dw (aV t.ay t.id),dH t 0))∧zS H b0 0 A.V 0∧zS H b1 0 (A.bt s) 0∧zS H b2 0 (A.bc s) 0):=
  fun H q g=>⟨yU q s t (by rw[tX];exact ht) 0 (zz _) hrl,(B0.grow g).cell,(B1.grow g).cell,(B2.grow g).cell⟩
 clear hR ht hen hid hrl aN B0 B1 B2 aU hlo;generalize D.dw (aV t.ay t.id)=aC at*;generalize dH t 0=k at*;go_enter Tryz.func121,Tryz.ntmps121;go_wp2_with fail;refine wp_region_still_tail 10 (by kernel_rfl) (by kernel_rfl) ?_;simp only[jZ,j6,kg,kr]
 repeat still_step
 still_call HC.out
 refine wpStill_nil ?_;change wpList _ _ _ _ _ w.drew;generalize w.drew=wd at*;go_wp2_with (first|(go_at_call 44;refine HL.out.mono ?_;rintro e H ⟨rfl,q1,q2⟩;have g1:=HG.out.trans q2;obtain⟨hf,d0,d1,d2⟩:=HB.out H q1 g1;have HQ:=U (zA hf g1);clear q1 q2 g1 hf)|(go_at_call 122;refine HQ.out.1.mono ?_;rintro e w2 ⟨A2,v,rfl,p1,p2,p3,p4⟩));go_ret;exact⟨A2,v,rfl,p1,HQ.out.2.trans p2,p3,p4⟩
set_option maxHeartbeats 16000000 in
theorem Kq (hR:aF A D w) (s:Nat) (t:bL) (ht:D.ai.getD s none=some t) (hm:A.mt s=0) (hen:t.ay<=1099511627776) (hid:t.id<=2000) (hkl:t.keys.length<1000000) (hK:Fa D t) (htl:D.aQ.length<1000000) (aN:D.count<4000000000000000000) (b0 b1 b2:Nat)
 (B0:aP A.L w b0 (R A.V 0)) (B1:aP A.L w b1 (R (A.bt s) 0)) (B2:aP A.L w b2 (R (A.bc s) 0)):
 zk 184 #[R b0 0,R b1 0,R b2 0] w (lF A w s (D.run s .cZ)):=by
 have c0:=B0.cell;have c1:=B1.cell;have e2:=hR.z2;have t4:w.cell? (J (A.bt s) 4)=zv t.ay:=hR.fI ht 4 rfl;have t0:w.cell? (J (A.bt s) 0)=zt t.id:=hR.fI ht 0 rfl;have HP:=U (eY hR.drew t.id (by omega));have HA:=U (lD 3 (t.ay:Int) 3 t.ay rfl rfl (by omega) (by omega) w.drew);have HL:=U (gy hR.drew (D.place t.id) (pack 3 t.ay) (by rw[hR.nw];unfold St.place;omega) aN);have HG:=zG A.L w;obtain⟨aK,yx⟩:∃ aK,aK=(D.put (D.place t.id) (pack 3 t.ay)).dI s {kind:=5,t:=t.id}:=⟨_,rfl⟩
 have aU:D.run s .cZ=(aK,some (.turns (t.keys.flatMap (mf t)) {over:=3})):=by
  rw[yx,<-wH (D.put (D.place t.id) (pack 3 t.ay)) t];simp only[St.run,cK ht];rfl
 rw[aU];obtain⟨t2,ht2,hk2,hc2,Kr⟩:∃ t2,aK.ai.getD s none=some t2∧t2.keys=t.keys∧t2.cells=t.cells∧t2.ay=t.ay:=by
  have ht1:(D.put (D.place t.id) (pack 3 t.ay)).ai.getD s none=some t:=ht;rw[yx];unfold St.dI;rw[cK ht1]
  by_cases ho:t.over=true
  . rw[aW ho];exact⟨t,ht1,rfl,rfl,rfl⟩
  . rw[bu ho]
    refine⟨{t with over:=true},?_,rfl,rfl,rfl⟩;show ((D.put (D.place t.id) (pack 3 t.ay)).bM s {t with over:=true}).ai.getD s none=_;rw[dB (dA ht1),aW rfl]
 have hsl2:aK.aG=D.aG:=by rw[yx];unfold St.dI;split<;>rfl
 have HB1:Hid (∀ H,aF A (D.put (D.place t.id) (pack 3 t.ay)) H->Grow A.L w A.L H->zk 125 #[R A.V 0,R (A.bt s) 0,.agg #[I 5,I t.id,zu 0,I 0,I 0,I 0,I 0,I 0,I 0,.slice none 0 0,I 0,I 0]] H.drew (Told A H.drew s aK)∧zS H b0 0 A.V 0∧zS H b1 0 (A.bt s) 0∧zT H (A.bt s) 0 t.id):=by
  intro H q g;rw[yx];exact⟨CY q.drew s t ht hm _ 5 t.id 0 rfl rfl htl,(B0.grow g).cell,(B1.grow g).cell,q.fI ht 0 rfl⟩
 have HB2 : Hid (∀ A2 w2, aF A2 aK w2 -> Grow A.L w A2.L w2 -> bU A A2 s -> A2.bx = A.bx -> ∀ w3, Below w2.heap.size w2 w3 -> zS w3 b0 0 A.V 0 ∧ zS w3 b1 0 (A.bt s) 0 ∧ zS w3 b2 0 (A.bc s) 0 ∧ zV w3 (A.bt s) 4 (t.ay : Int) ∧ w3.cell? (J (A.bt s) 7) = some (.map (some (A.bm s))) ∧ w3.cell? (J (A.bt s) 6) = some (A2.fu s) ∧
     (∃ av cap,A2.fu s=.slice av t.keys.length cap)∧(∀ k,k<t.keys.length->∀ g cap,A2.fu s=.slice (some (J g 0)) t.keys.length cap->w3.cell? (J g k)=zt (t.keys.getD k 0:Int))∧(∀ k,k<t.keys.length->∃ g cap,A2.fu s=.slice (some (J g 0)) t.keys.length cap)∧
     (∀ F x,t.cell F=some x->(Instr.lookup 116 (.map (some (A.bm s))) (I F) false).run Tryz.prog w3=.ok (R (A.bx s F) 0) w3∧zV w3 (A.bx s F) 0 x.own∧zV w3 (A.bx s F) 1 x.old∧zB w3 (A.bx s F) 2 x.there)):=by
  intro A2 w2 q g st hbx w3 Z;have r3:=q.below Z;have gg:=g.trans (Grow.below (L:=A2.L) Z);have a4:=r3.fI ht2 4 (v:=zu t2.ay) rfl;have a7:=r3.fI ht2 7 (v:=.map (some (A2.bm s))) rfl;have a6:=r3.fI ht2 6 (v:=A2.fu s) rfl;rw[st.bt] at a4 a7 a6;rw[st.bm] at a7;rw[Kr] at a4;have aY:=r3.mem.all (.keys s);rw[mem_keys ht2,hk2] at aY;obtain⟨av,cap,hv,_⟩:=Ow.bO aY.1;have hget:∀ k,k<t.keys.length->(t.keys.map i64)[k]? =some (i64 (t.keys.getD k 0)):=fun k Y=>by simp[List.getD,Y]
  refine⟨(B0.grow gg).cell,(B1.grow gg).cell,(B2.grow gg).cell,a4,a7,a6,⟨av,cap,hv⟩,fun k Y g' cap' hv'=>?_,fun k Y=>?_,fun F x hx=>?_⟩
  . obtain⟨g1,Ay,hv1,hc1⟩:=lG aY.1 (hget k Y)
    rw[hv'] at hv1;obtain⟨rfl,_⟩:g'=g1∧cap'=Ay:=by simpa using hv1
    exact hc1
  . obtain⟨g1,Ay,hv1,hc1⟩:=lG aY.1 (hget k Y)
    exact⟨g1,Ay,hv1⟩
  . have hx2:t2.cell F=some x:=by unfold bL.cell at hx ⊢;rw[hc2];exact hx
    have hl:=gF r3 ht2 F;have hpx:A2.px s t2 F=R (A2.bx s F) 0:=by unfold az.px;rw[hx2];rfl
    rw[hpx,hbx,st.bm] at hl;obtain⟨x0,x1,x2⟩:=r3.EF ht2 hx2;rw[hbx] at x0 x1 x2;exact⟨hl,x0,x1,x2⟩
 have HT:=U (Word.JV (t.ay:Int) (by omega) (by omega));have Vf:Hid (∀ A2 w2,aF A2 aK w2->bU A A2 s->∀ w3 av m cap,Below w2.heap.size w2 w3->w3.ownsRow w2.heap.size 234 3 (.slice av m cap) m (l8 (t.keys.flatMap (mf t)))->zk 128 #[R A.V 0,R (A.bt s) 0,R (A.bc s) 0,.slice av m cap,.agg #[I 0,I 0,.slice none 0 0,I 3,I 0]] w3 (bG A2 w3 s (aK,.turns (t.keys.flatMap (mf t)) {over:=3}))):=by
  intro A2 w2 q st w3 av m cap Z ho;have h:=CZ (q.below Z) s (t.keys.flatMap (mf t)) (.slice av m cap) (uP ho q.mem.fresh) {over:=3} 0 0 3 0 (.slice none 0 0) rfl (.inr ⟨rfl,rfl⟩);rw[st.V,st.bt,st.bc] at h;exact h
 have HS:Hid (∀ (l n:Nat),VL D l->n<=2->∀ w,zk 85 #[zu l,I n] w fun e E=>e=.returned (I ((af l n:Nat):Int))∧w=E):=fun l n hv hn E=>Cj l n hv.lo (by have:=hv.hi;have:=hR.sl;omega) hv.u hn E
 have HKK:=U (zA hK hkl);clear hR ht hm hen hid hkl hK htl aN B0 B1 B2 aU yx ht2 hk2 hc2 Kr hsl2;go_enter Tryz.func184,Tryz.ntmps184;go_wp2_with fail;refine wp_region_still_tail 15 (by kernel_rfl) (by kernel_rfl) ?_;simp only[jZ,j6,kg,kr]
 repeat still_step
 still_call HP.out
 repeat still_step
 still_call HA.out
 refine wpStill_nil ?_;change wpList _ _ _ _ _ w.drew;generalize w.drew=wd at*;go_wp2_with (go_at_call 47;refine HL.out.mono ?_;rintro e H ⟨rfl,q1,q2⟩;have g1:=HG.out.trans q2;obtain⟨hf,d0,d1,d2⟩:=HB1.out H q1 g1;have HQ:=U (zA hf (g1.trans (Grow.drew _ _)));clear q1 q2 g1 hf);refine wp_region_still_tail 7 (by kernel_rfl) (by kernel_rfl) ?_;simp only[jZ,j6,kg,kr]
 repeat still_step
 refine wpStill_nil ?_;change wpList _ _ _ _ _ H.drew;generalize H.drew=SG at*;go_wp2_with (first|(go_at_call 125;refine HQ.out.1.mono ?_;rintro e w2 ⟨rfl,A2,q1,q2,q3,q4,q5⟩;obtain⟨y0,y1,y2,y4,y7,y6,⟨kv,kc,QC⟩,_,_,_⟩:=HB2.out A2 w2 q1 (HQ.out.2.trans q2) q3 q4 w2 (Below.refl _ _);rw[QC] at y6;have H2:=U (zA q1 (zA (HQ.out.2.trans q2) (zA q3 (zA q4 QC))));clear q1 q2 q3 q4 q5 QC)|(go_at_call 185;refine (HT.out _).mono ?_;rintro e w3 ⟨rfl,rfl⟩))
 go_loopw [6,47] (fun l i wr=>∃ k:Nat,k<=t.keys.length∧i=I k∧Below w2.heap.size w2 wr∧∃ av cap,l=.slice av ((t.keys.take k).flatMap (mf t)).length cap∧wr.ownsRow w2.heap.size 234 3 l ((t.keys.take k).flatMap (mf t)).length (l8 ((t.keys.take k).flatMap (mf t)))) (fun _ i _=>t.keys.length - (intOf i).toNat)
 case atStart=>
  exact⟨0,zz _,rfl,Below.refl _ _,none,0,rfl,rfl,.inl ⟨rfl,rfl⟩⟩
 case round=>
  obtain⟨k,Y,rfl,Z,av,cap,rfl,aY⟩:=hrel;have hm0:=uQ (mf t) (AU t) (t.keys.take k)
  by_cases hlt:k<t.keys.length
  . obtain⟨x0,x1,x2,x4,x7,x6,_,hget,hform,Kt⟩:=HB2.out A2 w2 H2.out.1 H2.out.2.1 H2.out.2.2.1 H2.out.2.2.2.1 wr Z
    obtain⟨g,cap',hv⟩:=hform k hlt;obtain⟨rfl,rfl⟩:kv=za g 0∧kc=cap':=by have:=H2.out.2.2.2.2.symm.trans hv;simpa using this
    have hke:=hget k hlt g kc hv;obtain⟨x,hx,ho1,ho2⟩:=HKK.out.1 (t.keys.getD k 0) (by simp[List.getD,hlt]);obtain⟨hlk,SH,RO,NU⟩:=Kt _ x hx;have hfs:=zf (mf t) t.keys k hlt;have SI:mf t (t.keys.getD k 0)=(if x.own≠0 then ⟨af x.own 0,0,t.ay⟩::(if x.there then [] else [⟨af x.own 1,0,t.ay⟩]) else [])++(if x.old≠0 then [⟨af x.old 1,0,t.ay⟩] else []):=by unfold mf;rw[hx];rfl
    rw[SI] at hfs;have hlen:(t.keys.take k).length<=1000000:=by have:=HKK.out.2;simp;omega
    have HC:Hid (∀ E,Below w2.heap.size w2 E->zV E (A.bx s (t.keys.getD k 0)) 0 x.own∧zV E (A.bx s (t.keys.getD k 0)) 1 x.old∧zB E (A.bx s (t.keys.getD k 0)) 2 x.there):=fun E hb'=>by
     obtain⟨_,_,_,_,_,_,_,_,_,SK⟩:=HB2.out A2 w2 H2.out.1 H2.out.2.1 H2.out.2.2.1 H2.out.2.2.2.1 E hb';exact (SK _ x hx).2
    have HO:=U (zA ho1 (zA ho2 (zA hlt hfs)));have QD:(k:Int)<(t.keys.length:Int):=by omega
    have n1:IntKind.i64.wrap ((k:Int)+1)=(k:Int)+1:=by rw[je];have:=HKK.out.2;omega
    clear x0 x2 y0 y1 y2 y4 y7 y6 hget hform Kt hv ho1 ho2 SI hx;generalize t.keys.getD k 0=F at*;generalize hxs:l8 ((t.keys.take k).flatMap (mf t))=xs at*;have NV:=U hxs;clear hxs;generalize hmm:((t.keys.take k).flatMap (mf t)).length=m at*;have HM:=U hmm;clear hmm hfs;have hm1:m<3000001:=by omega
    clear hm0 hlen Y;generalize A.bx s F=bx at*
    by_cases ho:x.own≠0
    . have ho':x.own≠0:=ho
      have d1:((x.own:Int)==0)=false:=by simp;omega
      have d2:((x.own:Int) !=0)=true:=by simp;omega
      have d3:((x.own:Int)=0)=False:=by simp;omega
      clear ho'
      cases ht:x.there with
      |true=>
       by_cases hl:x.old≠0
       . have e1:((x.old:Int)==0)=false:=by simp;omega
         have e2:((x.old:Int) !=0)=true:=by simp;omega
         have e3:((x.old:Int)=0)=False:=by simp;omega
         have hfs:=HO.out.2.2.2;simp only[aW ho,aW hl,ht,if_true,if_false,Bool.false_eq_true,List.nil_append,List.append_nil,List.cons_append] at hfs;have sM:=U hfs;clear hfs;obtain⟨ws,W0,W1,W2⟩:∃ ws:Int->Int->Int,ws (x.own:Int) 0=((af x.own 0:Nat):Int)∧ws (x.own:Int) 1=((af x.own 1:Nat):Int)∧ws (x.old:Int) 1=((af x.old 1:Nat):Int):=⟨fun a b=>if b=0 then ((af a.toNat 0:Nat):Int) else ((af a.toNat 1:Nat):Int),by simp,by simp,by simp⟩
         have SL:Hid (∀ a b:Int,((a=(x.own:Int)∧b=0)∨(a=(x.own:Int)∧b=1)∨(a=(x.old:Int)∧b=1))->∀ w,zk 85 #[zu a,I b] w fun e E=>e=.returned (I (ws a b))∧w=E):=by
          rintro a b (⟨rfl,rfl⟩|⟨rfl,rfl⟩|⟨rfl,rfl⟩) w''
          . rw[W0];exact (HS.out x.own 0 (HO.out.1.resolve_left ho) (by omega) w'')
          . rw[W1];exact (HS.out x.own 1 (HO.out.1.resolve_left ho) (by omega) w'')
          . rw[W2];exact (HS.out x.old 1 (HO.out.2.1.resolve_left hl) (by omega) w'')
         have HW:=U (zA W0 (zA W1 W2));clear W0 W1 W2;clear ho hl;rw[ht] at NU HC;clear ht;go_wp2_with (first|(go_at_call 85;refine (SL.out _ _ (by first|exact .inl ⟨rfl,rfl⟩|exact .inr (.inl ⟨rfl,rfl⟩)|exact .inr (.inr ⟨rfl,rfl⟩)) _).mono ?_;rintro e E ⟨rfl,rfl⟩)|(refine sK _ rfl _ _ rfl w2 (by assumption) _ _ _ _ rfl (by assumption) (by omega) _ _ _ rfl ?_;intro mI gK wl ql pl;obtain⟨SH,RO,NU⟩:=HC.out wl pl))
         go_roundw
         case rel=>
          simp only[HW.out.1,HW.out.2.1,HW.out.2.2] at ql;refine⟨k+1,by have:=HO.out.2.2.1;omega,rfl,pl,mI,gK,?_,?_⟩
          . first|(rw[sM.out,jb,HM.out];done)|(rw[sM.out,jb,HM.out];rfl)
          . rw[sM.out,jb,HM.out,jN,NV.out];simp only[List.append_assoc,List.cons_append,List.nil_append] at ql;exact ql
         case measure=>have:=HO.out.2.2.1;simp[intOf];omega
       . have e1:((x.old:Int)==0)=true:=by simp;omega
         have e2:((x.old:Int) !=0)=false:=by simp;omega
         have e3:((x.old:Int)=0)=True:=by simp;omega
         have hfs:=HO.out.2.2.2;simp only[aW ho,bu hl,ht,if_true,if_false,Bool.false_eq_true,List.nil_append,List.append_nil,List.cons_append] at hfs;have sM:=U hfs;clear hfs;obtain⟨ws,W0,W1,W2⟩:∃ ws:Int->Int->Int,ws (x.own:Int) 0=((af x.own 0:Nat):Int)∧ws (x.own:Int) 1=((af x.own 1:Nat):Int)∧ws (x.old:Int) 1=((af x.old 1:Nat):Int):=⟨fun a b=>if b=0 then ((af a.toNat 0:Nat):Int) else ((af a.toNat 1:Nat):Int),by simp,by simp,by simp⟩
         have SL:Hid (∀ a b:Int,((a=(x.own:Int)∧b=0)∨(a=(x.own:Int)∧b=1)∨False)->∀ w,zk 85 #[zu a,I b] w fun e E=>e=.returned (I (ws a b))∧w=E):=by
          rintro a b (⟨rfl,rfl⟩|⟨rfl,rfl⟩|h) w''
          . rw[W0];exact (HS.out x.own 0 (HO.out.1.resolve_left ho) (by omega) w'')
          . rw[W1];exact (HS.out x.own 1 (HO.out.1.resolve_left ho) (by omega) w'')
          . exact h.elim
         have HW:=U (zA W0 (zA W1 W2));clear W0 W1 W2;clear ho hl;rw[ht] at NU HC;clear ht;go_wp2_with (first|(go_at_call 85;refine (SL.out _ _ (by first|exact .inl ⟨rfl,rfl⟩|exact .inr (.inl ⟨rfl,rfl⟩)|exact .inr (.inr ⟨rfl,rfl⟩)) _).mono ?_;rintro e E ⟨rfl,rfl⟩)|(refine sK _ rfl _ _ rfl w2 (by assumption) _ _ _ _ rfl (by assumption) (by omega) _ _ _ rfl ?_;intro mI gK wl ql pl;obtain⟨SH,RO,NU⟩:=HC.out wl pl))
         go_roundw
         case rel=>
          simp only[HW.out.1,HW.out.2.1,HW.out.2.2] at ql;refine⟨k+1,by have:=HO.out.2.2.1;omega,rfl,pl,mI,gK,?_,?_⟩
          . first|(rw[sM.out,jb,HM.out];done)|(rw[sM.out,jb,HM.out];rfl)
          . rw[sM.out,jb,HM.out,jN,NV.out];exact ql
         case measure=>have:=HO.out.2.2.1;simp[intOf];omega
          |false=>
       by_cases hl:x.old≠0
       . have e1:((x.old:Int)==0)=false:=by simp;omega
         have e2:((x.old:Int) !=0)=true:=by simp;omega
         have e3:((x.old:Int)=0)=False:=by simp;omega
         have hfs:=HO.out.2.2.2;simp only[aW ho,aW hl,ht,if_true,if_false,Bool.false_eq_true,List.nil_append,List.append_nil,List.cons_append] at hfs;have sM:=U hfs;clear hfs;obtain⟨ws,W0,W1,W2⟩:∃ ws:Int->Int->Int,ws (x.own:Int) 0=((af x.own 0:Nat):Int)∧ws (x.own:Int) 1=((af x.own 1:Nat):Int)∧ws (x.old:Int) 1=((af x.old 1:Nat):Int):=⟨fun a b=>if b=0 then ((af a.toNat 0:Nat):Int) else ((af a.toNat 1:Nat):Int),by simp,by simp,by simp⟩
         have SL:Hid (∀ a b:Int,((a=(x.own:Int)∧b=0)∨(a=(x.own:Int)∧b=1)∨(a=(x.old:Int)∧b=1))->∀ w,zk 85 #[zu a,I b] w fun e E=>e=.returned (I (ws a b))∧w=E):=by
          rintro a b (⟨rfl,rfl⟩|⟨rfl,rfl⟩|⟨rfl,rfl⟩) w''
          . rw[W0];exact (HS.out x.own 0 (HO.out.1.resolve_left ho) (by omega) w'')
          . rw[W1];exact (HS.out x.own 1 (HO.out.1.resolve_left ho) (by omega) w'')
          . rw[W2];exact (HS.out x.old 1 (HO.out.2.1.resolve_left hl) (by omega) w'')
         have HW:=U (zA W0 (zA W1 W2));clear W0 W1 W2;clear ho hl;rw[ht] at NU HC;clear ht;go_wp2_with (first|(go_at_call 85;refine (SL.out _ _ (by first|exact .inl ⟨rfl,rfl⟩|exact .inr (.inl ⟨rfl,rfl⟩)|exact .inr (.inr ⟨rfl,rfl⟩)) _).mono ?_;rintro e E ⟨rfl,rfl⟩)|(refine sK _ rfl _ _ rfl w2 (by assumption) _ _ _ _ rfl (by assumption) (by omega) _ _ _ rfl ?_;intro mI gK wl ql pl;obtain⟨SH,RO,NU⟩:=HC.out wl pl))
         go_roundw
         case rel=>
          simp only[HW.out.1,HW.out.2.1,HW.out.2.2] at ql;refine⟨k+1,by have:=HO.out.2.2.1;omega,rfl,pl,mI,gK,?_,?_⟩
          . first|(rw[sM.out,jb,HM.out];done)|(rw[sM.out,jb,HM.out];rfl)
          . rw[sM.out,jb,HM.out,jN,NV.out];simp only[List.append_assoc,List.cons_append,List.nil_append] at ql;exact ql
         case measure=>have:=HO.out.2.2.1;simp[intOf];omega
       . have e1:((x.old:Int)==0)=true:=by simp;omega
         have e2:((x.old:Int) !=0)=false:=by simp;omega
         have e3:((x.old:Int)=0)=True:=by simp;omega
         have hfs:=HO.out.2.2.2;simp only[aW ho,bu hl,ht,if_true,if_false,Bool.false_eq_true,List.nil_append,List.append_nil,List.cons_append] at hfs;have sM:=U hfs;clear hfs;obtain⟨ws,W0,W1,W2⟩:∃ ws:Int->Int->Int,ws (x.own:Int) 0=((af x.own 0:Nat):Int)∧ws (x.own:Int) 1=((af x.own 1:Nat):Int)∧ws (x.old:Int) 1=((af x.old 1:Nat):Int):=⟨fun a b=>if b=0 then ((af a.toNat 0:Nat):Int) else ((af a.toNat 1:Nat):Int),by simp,by simp,by simp⟩
         have SL:Hid (∀ a b:Int,((a=(x.own:Int)∧b=0)∨(a=(x.own:Int)∧b=1)∨False)->∀ w,zk 85 #[zu a,I b] w fun e E=>e=.returned (I (ws a b))∧w=E):=by
          rintro a b (⟨rfl,rfl⟩|⟨rfl,rfl⟩|h) w''
          . rw[W0];exact (HS.out x.own 0 (HO.out.1.resolve_left ho) (by omega) w'')
          . rw[W1];exact (HS.out x.own 1 (HO.out.1.resolve_left ho) (by omega) w'')
          . exact h.elim
         have HW:=U (zA W0 (zA W1 W2));clear W0 W1 W2;clear ho hl;rw[ht] at NU HC;clear ht;go_wp2_with (first|(go_at_call 85;refine (SL.out _ _ (by first|exact .inl ⟨rfl,rfl⟩|exact .inr (.inl ⟨rfl,rfl⟩)|exact .inr (.inr ⟨rfl,rfl⟩)) _).mono ?_;rintro e E ⟨rfl,rfl⟩)|(refine sK _ rfl _ _ rfl w2 (by assumption) _ _ _ _ rfl (by assumption) (by omega) _ _ _ rfl ?_;intro mI gK wl ql pl;obtain⟨SH,RO,NU⟩:=HC.out wl pl))
         go_roundw
         case rel=>
          simp only[HW.out.1,HW.out.2.1,HW.out.2.2] at ql;refine⟨k+1,by have:=HO.out.2.2.1;omega,rfl,pl,mI,gK,?_,?_⟩
          . first|(rw[sM.out,jb,HM.out];done)|(rw[sM.out,jb,HM.out];rfl)
          . rw[sM.out,jb,HM.out,jN,NV.out];simp only[List.append_assoc,List.cons_append,List.nil_append] at ql;exact ql
         case measure=>have:=HO.out.2.2.1;simp[intOf];omega
    . have d1:((x.own:Int)==0)=true:=by simp;omega
      have d2:((x.own:Int) !=0)=false:=by simp;omega
      have d3:((x.own:Int)=0)=True:=by simp;omega
      by_cases hl:x.old≠0
      . have e1:((x.old:Int)==0)=false:=by simp;omega
        have e2:((x.old:Int) !=0)=true:=by simp;omega
        have e3:((x.old:Int)=0)=False:=by simp;omega
        have hfs:=HO.out.2.2.2;simp only[bu ho,aW hl,List.nil_append,List.append_nil,List.cons_append] at hfs;have sM:=U hfs;clear hfs;obtain⟨ws,W0,W1,W2⟩:∃ ws:Int->Int->Int,ws (x.own:Int) 0=((af x.own 0:Nat):Int)∧ws (x.own:Int) 1=((af x.own 1:Nat):Int)∧ws (x.old:Int) 1=((af x.old 1:Nat):Int):=⟨fun a b=>if b=0 then ((af a.toNat 0:Nat):Int) else ((af a.toNat 1:Nat):Int),by simp,by simp,by simp⟩
        have SL:Hid (∀ a b:Int,(False∨False∨(a=(x.old:Int)∧b=1))->∀ w,zk 85 #[zu a,I b] w fun e E=>e=.returned (I (ws a b))∧w=E):=by
         rintro a b (h|h|⟨rfl,rfl⟩) w''
         . exact h.elim
         . exact h.elim
         . rw[W2];exact (HS.out x.old 1 (HO.out.2.1.resolve_left hl) (by omega) w'')
        have HW:=U (zA W0 (zA W1 W2));clear W0 W1 W2;clear ho hl;go_wp2_with (first|(go_at_call 85;refine (SL.out _ _ (by first|exact .inl ⟨rfl,rfl⟩|exact .inr (.inl ⟨rfl,rfl⟩)|exact .inr (.inr ⟨rfl,rfl⟩)) _).mono ?_;rintro e E ⟨rfl,rfl⟩)|(refine sK _ rfl _ _ rfl w2 (by assumption) _ _ _ _ rfl (by assumption) (by omega) _ _ _ rfl ?_;intro mI gK wl ql pl;obtain⟨SH,RO,NU⟩:=HC.out wl pl))
        go_roundw
        case rel=>
         simp only[HW.out.1,HW.out.2.1,HW.out.2.2] at ql;refine⟨k+1,by have:=HO.out.2.2.1;omega,rfl,pl,mI,gK,?_,?_⟩
         . first|(rw[sM.out,jb,HM.out];done)|(rw[sM.out,jb,HM.out];rfl)
         . rw[sM.out,jb,HM.out,jN,NV.out];exact ql
        case measure=>have:=HO.out.2.2.1;simp[intOf];omega
      . have e1:((x.old:Int)==0)=true:=by simp;omega
        have e2:((x.old:Int) !=0)=false:=by simp;omega
        have e3:((x.old:Int)=0)=True:=by simp;omega
        have hfs:=HO.out.2.2.2;simp only[bu ho,bu hl,List.nil_append,List.append_nil,List.cons_append] at hfs;have sM:=U hfs;clear hfs;clear ho hl;go_wp2_with fail
        go_roundw
        case rel=>
         refine⟨k+1,by have:=HO.out.2.2.1;omega,rfl,Z,av,cap,?_,?_⟩
         . first|(rw[sM.out,HM.out];done)|(rw[sM.out,HM.out];rfl)
         . rw[sM.out,HM.out,NV.out];exact aY
        case measure=>have:=HO.out.2.2.1;simp[intOf];omega
  . obtain rfl:k=t.keys.length:=by omega
    rw[List.take_length] at aY ⊢;obtain⟨x0,x1,x2,x4,x7,x6,_⟩:=HB2.out A2 w2 H2.out.1 H2.out.2.1 H2.out.2.2.1 H2.out.2.2.2.1 wr Z;have HE:=U (zA (Vf.out A2 w2 H2.out.1 H2.out.2.2.1 wr av _ cap Z aY) (Grow.below (L:=A2.L) Z));clear aY Z hlt Y hm0;generalize (t.keys.flatMap (mf t)).length=m at*;go_wp2_with (go_at_call 128;refine HE.out.1.mono ?_;rintro e w4 ⟨A3,v,rfl,p1,p2,p3,p4⟩);go_ret;exact⟨A3,v,rfl,p1,(H2.out.2.1.trans HE.out.2).trans p2,H2.out.2.2.1.trans p3,p4⟩
def iQ (A:az) (D:St) (w:World) (k:Option S):Ending->World->Prop:=fun e E=>∃ v,e=.returned v∧aF A D E∧Grow A.L w A.L E∧jA A.V A.L E v k
theorem Fe (hR:aF A D w) (F:Nat) (ak:Nat) (G:Nat) (id:Nat):
 zk 180 #[R A.V 0,I F,zu ak,zu G,I id] w (iQ A D w (some (.maker F ak G id))):=by
 have ae:=U (jL hR #[R A.V 0] 32 #[I F] 3 #[zu ak] 25 #[zu G] 25 #[I id] 3);clear hR;go_enter Tryz.func180,Tryz.ntmps180;go_wp2;go_ret;obtain⟨r1,r2,f0,f1,f2,f3,f4⟩:=ae.out;exact⟨_,rfl,r1,r2,_,_,_,_,_,rfl,f0.box,f4.box,f1.box,f2.box,f3.box⟩
theorem AV (hR:aF A D w) (F:Nat) (ak:Nat) (G:Nat) (b:Nat):
 zk 181 #[R A.V 0,I F,zu ak,zu G,zu b] w (iQ A D w (some (.dC F ak G b))):=by
 have ae:=U (jL hR #[R A.V 0] 32 #[I F] 3 #[zu ak] 25 #[zu G] 25 #[zu b] 25);clear hR;go_enter Tryz.func181,Tryz.ntmps181;go_wp2;go_ret;obtain⟨r1,r2,f0,f1,f2,f3,f4⟩:=ae.out;exact⟨_,rfl,r1,r2,_,_,_,_,_,rfl,f4.box,f0.box,f3.box,f1.box,f2.box⟩
theorem G9 (hR:aF A D w) (F:Nat) (G:Nat):
 zk 197 #[R A.V 0,I F,zu G] w (iQ A D w (some (.on F G))):=by
 have ae:=U (jl hR #[R A.V 0] 32 #[I F] 3 #[zu G] 25);clear hR;go_enter Tryz.func197,Tryz.ntmps197;go_wp2;go_ret;obtain⟨r1,r2,f0,f1,f2⟩:=ae.out;exact⟨_,rfl,r1,r2,_,_,_,rfl,f0.box,f1.box,f2.box⟩
theorem uR (hR:aF A D w) (F:Nat) (ak:Nat) (G:Nat):
 zk 196 #[R A.V 0,I F,zu ak,zu G] w (iQ A D w (some (.unlink F ak G))):=by
 have ae:=U (jK hR #[R A.V 0] 32 #[I F] 3 #[zu ak] 25 #[zu G] 25);clear hR;go_enter Tryz.func196,Tryz.ntmps196;go_wp2;go_ret;obtain⟨r1,r2,f0,f1,f2,f3⟩:=ae.out;exact⟨_,rfl,r1,r2,_,_,_,_,rfl,f0.box,f3.box,f1.box,f2.box⟩
theorem Ku (hR:aF A D w) (F:Nat) (ak:Nat) (G:Nat) (nx:Nat):
 zk 208 #[R A.V 0,I F,zu ak,zu G,zu nx] w (iQ A D w (some (.cut F ak G nx))):=by
 have ae:=U (jL hR #[R A.V 0] 32 #[I F] 3 #[zu ak] 25 #[zu G] 25 #[zu nx] 25);clear hR;go_enter Tryz.func208,Tryz.ntmps208;go_wp2;go_ret;obtain⟨r1,r2,f0,f1,f2,f3,f4⟩:=ae.out;exact⟨_,rfl,r1,r2,_,_,_,_,_,rfl,f2.box,f0.box,f4.box,f1.box,f3.box⟩
theorem tY (hR:aF A D w) (F:Nat) (Y:F<=64):
 zk 135 #[R A.V 0,I F] w (iQ A D w (mG F)):=by
 have ae:=U (jJ hR #[R A.V 0] 32 #[I F] 3);clear hR;unfold mG
 by_cases h63:63<F
 . have h1:((63:Int)<(F:Int))=True:=by simp;omega
   have h2:decide ((63:Int)<(F:Int))=true:=by simp;omega
   rw[aW h63];go_enter Tryz.func135,Tryz.ntmps135;go_wp2;go_ret;obtain⟨r1,r2,f0,f1⟩:=ae.out;exact⟨_,rfl,r1,r2,rfl⟩
 . have h1:((63:Int)<(F:Int))=False:=by simp;omega
   have h2:decide ((63:Int)<(F:Int))=false:=by simp;omega
   rw[bu h63];go_enter Tryz.func135,Tryz.ntmps135;go_wp2;go_ret;obtain⟨r1,r2,f0,f1⟩:=ae.out;exact⟨_,rfl,r1,r2,_,_,rfl,f0.box,f1.box⟩
theorem zg (hR:aF A D w) (s:Nat) (hs:s<=8):
 zk 101 #[R A.V 0,I s] w (iQ A D w (nE s)):=by
 have ae:=U (jJ hR #[R A.V 0] 32 #[I s] 3);have HH:=U (tY (ae.out.1) 0 (by decide));clear hR;unfold nE
 by_cases h8:s=8
 . have h1:((s:Int)=8)=True:=by simp;omega
   have h2:((s:Int)==8)=true:=by simp;omega
   rw[aW h8];clear h8;go_enter Tryz.func101,Tryz.ntmps101;go_wp2_with (go_at_call 135;refine HH.out.mono ?_;rintro e w9 ⟨v,rfl,q1,q2,q3⟩;have HQ:=U (zA q1 (zA q2 q3));clear q1 q2 q3);go_ret;exact⟨_,rfl,HQ.out.1,ae.out.2.1.trans HQ.out.2.1,HQ.out.2.2⟩
 . have h1:((s:Int)=8)=False:=by simp;omega
   have h2:((s:Int)==8)=false:=by simp;omega
   rw[bu h8];clear h8;go_enter Tryz.func101,Tryz.ntmps101;go_wp2;go_ret;obtain⟨r1,r2,f0,f1⟩:=ae.out;exact⟨_,rfl,r1,r2,_,_,rfl,f0.box,f1.box⟩
theorem o7 (hR:aF A D w) (F ak G:Nat) (Y:F<=63):
 zk 160 #[R A.V 0,I F,zu ak,zu G] w (iQ A D w (iK F ak G)):=by
 have ae:=U (jK hR #[R A.V 0] 32 #[I F] 3 #[zu ak] 25 #[zu G] 25);have HH:=U (tY (ae.out.1) (F+1) (by omega));have n1:IntKind.i64.wrap ((F:Int)+1)=((F+1:Nat):Int):=by rw[je];omega
 clear hR;unfold iK
 by_cases h8:G=0
 . have h1:((G:Int)=0)=True:=by simp;omega
   have h2:((G:Int)==0)=true:=by simp;omega
   rw[aW h8];clear h8;generalize ((F+1:Nat):Int)=k1 at*;go_enter Tryz.func160,Tryz.ntmps160;go_wp2_with (go_at_call 135;refine HH.out.mono ?_;rintro e w9 ⟨v,rfl,q1,q2,q3⟩;have HQ:=U (zA q1 (zA q2 q3));clear q1 q2 q3);go_ret;exact⟨_,rfl,HQ.out.1,ae.out.2.1.trans HQ.out.2.1,HQ.out.2.2⟩
 . have h1:((G:Int)=0)=False:=by simp;omega
   have h2:((G:Int)==0)=false:=by simp;omega
   rw[bu h8];clear h8;go_enter Tryz.func160,Tryz.ntmps160;go_wp2;go_ret;obtain⟨r1,r2,f0,f1,f2,f3⟩:=ae.out;exact⟨_,rfl,r1,r2,_,_,_,_,rfl,f0.box,f3.box,f1.box,f2.box⟩
structure kR (A A':az):Prop where
 ex:∃ L v c f m hc g cs,A'={A with L:=L,eP:=v,jc:=c,fH:=f,mp:=m,hcut:=hc,gu:=g,eG:=cs}
 mp:A'.mp=A.mp
theorem kR.refl (A:az):kR A A:=⟨⟨_,_,_,_,_,_,_,_,rfl⟩,rfl⟩
theorem kR.trans {A B C:az} (h:kR A B) (k:kR B C):kR A C:=by
 obtain⟨⟨L,v,c,f,m,hc,gc,cs,rfl⟩,h2⟩:=h;obtain⟨⟨L',v',c',f',m',hc',gc',cs',rfl⟩,k2⟩:=k;exact⟨⟨_,_,_,_,_,_,_,_,rfl⟩,k2.trans h2⟩
def rD (A:az) (D:St) (w:World):Prop:=jd A D.cut
def sN (A:az) (D:St) (w:World) (r:St×Bool):Ending->World->Prop:=fun e E=>e=.returned (.bool r.2)∧∃ A',kR A A'∧aF A' r.1 E∧Grow A.L w A'.L E∧jA A'.V A'.L E (A'.sv r.1.sw) r.1.sw∧(rD A D w->rD A' r.1 E)
theorem aF.fB (h:aF A D w) (v:Value) (x:Option S) (hs:jA A.V A.L w v x):
 ∃ A',kR A A'∧A'.MW=A.MW∧aF A' {D with sw:=x} (w.setCell (J A.V 25) v)∧Grow A.L w A'.L (w.setCell (J A.V 25) v)∧jA A'.V A'.L (w.setCell (J A.V 25) v) (A'.sv x) x:=by
 cases x with
 |none=>
  have e:v=.nilFunc:=hs;subst e;obtain⟨r,g⟩:=h.JQ;exact⟨A,kR.refl A,rfl,r,g,rfl⟩
 |some k=>
  obtain⟨r,g⟩:=h.fV v k;exact⟨{A with eP:=v},⟨⟨_,_,_,_,_,_,_,_,rfl⟩,rfl⟩,rfl,r,g,hs.grow g⟩
theorem rD.keep {A A':az} {D bF:St} {w E:World} (h:rD A D w) (e:A'.MW=A.MW) (ec:bF.cut=D.cut) (g:Grow A.L w A'.L E):rD A' bF E:=by
 have c1:A'.jc=A.jc:=congrArg (·.1) e;have c2:A'.hcut=A.hcut:=congrArg (·.2.1) e;have c3:A'.gu=A.gu:=congrArg (·.2.2.1) e;have c4:A'.eG=A.eG:=congrArg (·.2.2.2) e;unfold rD jd at*;rw[ec,c1,c2,c3,c4];exact h
theorem jA.form {e:Nat} {L:eH} {w:World} {v:Value}:∀ {k:S},jA e L w v (some k)->∃ fv fb fc,v=.func (.func fv) fb fc
 |.now,h=>⟨_,_,_,h⟩
 |.live _,h=>let ⟨_,_,e,_⟩:=h;⟨_,_,_,e⟩
 |.head _,h=>let ⟨_,_,e,_⟩:=h;⟨_,_,_,e⟩
 |.visit _ _ _,h=>let ⟨_,_,_,_,e,_⟩:=h;⟨_,_,_,e⟩
 |.maker _ _ _ _,h=>let ⟨_,_,_,_,_,e,_⟩:=h;⟨_,_,_,e⟩
 |.dC _ _ _ _,h=>let ⟨_,_,_,_,_,e,_⟩:=h;⟨_,_,_,e⟩
 |.on _ _,h=>let ⟨_,_,_,e,_⟩:=h;⟨_,_,_,e⟩
 |.unlink _ _ _,h=>let ⟨_,_,_,_,e,_⟩:=h;⟨_,_,_,e⟩
 |.cut _ _ _ _,h=>let ⟨_,_,_,_,_,e,_⟩:=h;⟨_,_,_,e⟩
theorem QE (hR:aF A D w) (F:Nat) (Y:F<=63) (aN:D.count<4000000000000000000) (b0:Nat) (b1:Nat) (B0:aP A.L w b0 (R A.V 0)) (B1:aP A.L w b1 (I F)):
 zk 159 #[R b0 0,R b1 0] w (sN A D w (D.aH (.head F))):=by
 have c0:=B0.cell;have c1:=B1.cell;have e2:=hR.z2;have n1:IntKind.i64.wrap (9+(F:Int))=9+(F:Int):=by rw[je];omega
 have HL:Hid (∀ E,aF A D E->zk 42 #[R A.ba 0,I (9+(F:Int))] E (uL A E D.tick (zu (D.word (9+F):Int)))):=fun E r=>iP r (9+F) (9+(F:Int)) (by omega) (by rw[r.nw];omega) aN
 have nM:Hid (aF A D w.drew):=hR.drew;have HKK:Hid (∀ E,aF A D.tick E->Grow A.L w A.L E->zS E b0 0 A.V 0∧zT E b1 0 F∧zS E A.V 2 A.ba 0):=fun E r g=>⟨(B0.grow g).cell,(B1.grow g).cell,r.bT 2 rfl⟩
 have uS:Hid (∀ E x,aF A D.tick E->Grow A.L w A.L E->zS (E.setCell (J A.V 25) x) b0 0 A.V 0∧zT (E.setCell (J A.V 25) x) b1 0 F∧zS (E.setCell (J A.V 25) x) A.V 2 A.ba 0):=fun E x r g=>let ⟨r',g'⟩:=r.fV x .now;⟨(B0.grow (g.trans g')).cell,(B1.grow (g.trans g')).cell,r'.bT 2 rfl⟩
 have HM:Hid (∀ E,aF A D.tick E->zk 160 #[R A.V 0,I F,zu 0,zu (D.word (9+F):Int)] E (iQ A D.tick E (iK F 0 (D.word (9+F))))):=fun E r=>o7 r F 0 (D.word (9+F)) Y
 have HG:=zG A.L w;clear hR aN B0 B1;have jU:D.aH (.head F)=({D.tick with sw:=iK F 0 (D.word (9+F))},false):=rfl;rw[jU];generalize iK F 0 (D.word (9+F))=kk at*;generalize (D.word (9+F):Int)=hd at*
 cases kk with
 |none=>
  go_enter Tryz.func159,Tryz.ntmps159;go_wp2_with fail
  go_region_held3 (fun E=>zS E b0 0 A.V 0∧zT E b1 0 F∧zS E A.V 2 A.ba 0)
   (first|exact⟨c0,c1,e2⟩|assumption|go_keep|exact HKK.out _ (by assumption) (by assumption)|exact uS.out _ _ (by assumption) (by assumption))
   (first|(go_at_call 42;refine (HL.out _ nM.out).mono ?_;rintro e H ⟨rfl,q1,q2⟩;have q4:=HG.out.trans q2)|(go_at_call 160;refine (HM.out _ (by assumption)).mono ?_;rintro e w2 ⟨v,rfl,p1,p2,p3⟩;have e3:v=.nilFunc:=p3;subst e3;obtain⟨vo,y25⟩:∃ vo,w2.cell? (J A.V 25)=some vo:=⟨_,p1.bT 25 (v:=A.sv D.tick.sw) rfl⟩;have z25:=p1.iE 25;have q5:=q4.trans p2;have HP:=U p3;clear p2 p3))
  go_wp2_with fail;go_ret;obtain⟨A',a1,a2,a3,a4,a5⟩:=p1.fB _ _ HP.out;exact⟨rfl,A',a1,a3,q5.trans a4,a5,fun hc=>hc.keep a2 rfl (q5.trans a4)⟩
 |some kx=>
  go_enter Tryz.func159,Tryz.ntmps159;go_wp2_with fail
  go_region_held3 (fun E=>zS E b0 0 A.V 0∧zT E b1 0 F∧zS E A.V 2 A.ba 0)
   (first|exact⟨c0,c1,e2⟩|assumption|go_keep|exact HKK.out _ (by assumption) (by assumption)|exact uS.out _ _ (by assumption) (by assumption))
   (first|(go_at_call 42;refine (HL.out _ nM.out).mono ?_;rintro e H ⟨rfl,q1,q2⟩;have q4:=HG.out.trans q2)|(go_at_call 160;refine (HM.out _ (by assumption)).mono ?_;rintro e w2 ⟨v,rfl,p1,p2,p3⟩;obtain⟨fv,fb,fc,e3⟩:=jA.form p3;subst e3;obtain⟨vo,y25⟩:∃ vo,w2.cell? (J A.V 25)=some vo:=⟨_,p1.bT 25 (v:=A.sv D.tick.sw) rfl⟩;have z25:=p1.iE 25;have q5:=q4.trans p2;have HP:=U p3;clear p2 p3))
  go_wp2_with fail;go_ret;obtain⟨A',a1,a2,a3,a4,a5⟩:=p1.fB _ _ HP.out;exact⟨rfl,A',a1,a3,q5.trans a4,a5,fun hc=>hc.keep a2 rfl (q5.trans a4)⟩
theorem Vg (hR:aF A D w) (F G:Nat) (Y:F<=63) (hv:VL D G) (aN:D.count<4000000000000000000) (b0:Nat) (b1:Nat) (b2:Nat) (B0:aP A.L w b0 (R A.V 0)) (B1:aP A.L w b1 (I F)) (B2:aP A.L w b2 (zu G)):
 zk 209 #[R b0 0,R b1 0,R b2 0] w (sN A D w (D.aH (.on F G))):=by
 have c0:=B0.cell;have c1:=B1.cell;have c2:=B2.cell;have e2:=hR.z2;have hsl:=hR.sl;have HS:=U (eD G 2 2 rfl hv.lo (by have:=hv.hi;omega) hv.u (by omega));have HL:Hid (∀ E,aF A D E->zk 42 #[R A.ba 0,I (((af G 2:Nat):Int))] E (uL A E D.tick (zu (D.word (af G 2):Int)))):=fun E r=>iP r (af G 2) (((af G 2:Nat):Int)) rfl (dD r hv.lo hv.hi (by omega)) aN
 have nM:Hid (aF A D w.drew):=hR.drew;have HKK:Hid (∀ E,aF A D.tick E->Grow A.L w A.L E->zS E b0 0 A.V 0∧zT E b1 0 F∧zV E b2 0 G∧zS E A.V 2 A.ba 0):=fun E r g=>⟨(B0.grow g).cell,(B1.grow g).cell,(B2.grow g).cell,r.bT 2 rfl⟩
 have uS:Hid (∀ E x,aF A D.tick E->Grow A.L w A.L E->zS (E.setCell (J A.V 25) x) b0 0 A.V 0∧zT (E.setCell (J A.V 25) x) b1 0 F∧zV (E.setCell (J A.V 25) x) b2 0 G∧zS (E.setCell (J A.V 25) x) A.V 2 A.ba 0):=fun E x r g=>let ⟨r',g'⟩:=r.fV x .now;⟨(B0.grow (g.trans g')).cell,(B1.grow (g.trans g')).cell,(B2.grow (g.trans g')).cell,r'.bT 2 rfl⟩
 have HM:Hid (∀ E,aF A D.tick E->zk 160 #[R A.V 0,I F,zu G,zu (D.word (af G 2):Int)] E (iQ A D.tick E (iK F G (D.word (af G 2))))):=fun E r=>o7 r F G (D.word (af G 2)) Y
 have HG:=zG A.L w;clear hR aN B0 B1 B2;have jU:D.aH (.on F G)=({D.tick with sw:=iK F G (D.word (af G 2))},false):=rfl;rw[jU];clear hv hsl;generalize iK F G (D.word (af G 2))=kk at*;generalize (D.word (af G 2):Int)=hd at*;generalize ((af G 2:Nat):Int)=ix at*
 cases kk with
 |none=>
  go_enter Tryz.func209,Tryz.ntmps209;go_wp2_with fail
  go_region_held3 (fun E=>zS E b0 0 A.V 0∧zT E b1 0 F∧zV E b2 0 G∧zS E A.V 2 A.ba 0)
   (first|exact⟨c0,c1,c2,e2⟩|assumption|go_keep|exact HKK.out _ (by assumption) (by assumption)|exact uS.out _ _ (by assumption) (by assumption))
   (first|(go_at_call 42;refine (HL.out _ nM.out).mono ?_;rintro e H ⟨rfl,q1,q2⟩;have q4:=HG.out.trans q2)|(go_at_call 85;refine (HS.out _).mono ?_;rintro e w9 ⟨rfl,rfl⟩)|(go_at_call 160;refine (HM.out _ (by assumption)).mono ?_;rintro e w2 ⟨v,rfl,p1,p2,p3⟩;have e3:v=.nilFunc:=p3;subst e3;obtain⟨vo,y25⟩:∃ vo,w2.cell? (J A.V 25)=some vo:=⟨_,p1.bT 25 (v:=A.sv D.tick.sw) rfl⟩;have z25:=p1.iE 25;have q5:=q4.trans p2;have HP:=U p3;clear p2 p3))
  go_wp2_with fail;go_ret;obtain⟨A',a1,a2,a3,a4,a5⟩:=p1.fB _ _ HP.out;exact⟨rfl,A',a1,a3,q5.trans a4,a5,fun hc=>hc.keep a2 rfl (q5.trans a4)⟩
 |some kx=>
  go_enter Tryz.func209,Tryz.ntmps209;go_wp2_with fail
  go_region_held3 (fun E=>zS E b0 0 A.V 0∧zT E b1 0 F∧zV E b2 0 G∧zS E A.V 2 A.ba 0)
   (first|exact⟨c0,c1,c2,e2⟩|assumption|go_keep|exact HKK.out _ (by assumption) (by assumption)|exact uS.out _ _ (by assumption) (by assumption))
   (first|(go_at_call 42;refine (HL.out _ nM.out).mono ?_;rintro e H ⟨rfl,q1,q2⟩;have q4:=HG.out.trans q2)|(go_at_call 85;refine (HS.out _).mono ?_;rintro e w9 ⟨rfl,rfl⟩)|(go_at_call 160;refine (HM.out _ (by assumption)).mono ?_;rintro e w2 ⟨v,rfl,p1,p2,p3⟩;obtain⟨fv,fb,fc,e3⟩:=jA.form p3;subst e3;obtain⟨vo,y25⟩:∃ vo,w2.cell? (J A.V 25)=some vo:=⟨_,p1.bT 25 (v:=A.sv D.tick.sw) rfl⟩;have z25:=p1.iE 25;have q5:=q4.trans p2;have HP:=U p3;clear p2 p3))
  go_wp2_with fail;go_ret;obtain⟨A',a1,a2,a3,a4,a5⟩:=p1.fB _ _ HP.out;exact⟨rfl,A',a1,a3,q5.trans a4,a5,fun hc=>hc.keep a2 rfl (q5.trans a4)⟩
theorem Kv (hR:aF A D w) (F ak G:Nat) (hv:VL D G) (aN:D.count<4000000000000000000) (b0:Nat) (b1:Nat) (b2:Nat) (b3:Nat) (B0:aP A.L w b0 (R A.V 0)) (B1:aP A.L w b1 (zu G)) (B2:aP A.L w b2 (I F)) (B3:aP A.L w b3 (zu ak)):
 zk 207 #[R b0 0,R b1 0,R b2 0,R b3 0] w (sN A D w (D.aH (.unlink F ak G))):=by
 have c0:=B0.cell;have c1:=B1.cell;have c2:=B2.cell;have c3:=B3.cell;have e2:=hR.z2;have hsl:=hR.sl;have HS:=U (eD G 2 2 rfl hv.lo (by have:=hv.hi;omega) hv.u (by omega));have HL:Hid (∀ E,aF A D E->zk 42 #[R A.ba 0,I (((af G 2:Nat):Int))] E (uL A E D.tick (zu (D.word (af G 2):Int)))):=fun E r=>iP r (af G 2) (((af G 2:Nat):Int)) rfl (dD r hv.lo hv.hi (by omega)) aN
 have nM:Hid (aF A D w.drew):=hR.drew;have HKK:Hid (∀ E,aF A D.tick E->Grow A.L w A.L E->zS E b0 0 A.V 0∧zV E b1 0 G∧zT E b2 0 F∧zV E b3 0 ak∧zS E A.V 2 A.ba 0):=fun E r g=>⟨(B0.grow g).cell,(B1.grow g).cell,(B2.grow g).cell,(B3.grow g).cell,r.bT 2 rfl⟩
 have uS:Hid (∀ E x,aF A D.tick E->Grow A.L w A.L E->zS (E.setCell (J A.V 25) x) b0 0 A.V 0∧zV (E.setCell (J A.V 25) x) b1 0 G∧zT (E.setCell (J A.V 25) x) b2 0 F∧zV (E.setCell (J A.V 25) x) b3 0 ak∧zS (E.setCell (J A.V 25) x) A.V 2 A.ba 0):=fun E x r g=>let ⟨r',g'⟩:=r.fV x .now;⟨(B0.grow (g.trans g')).cell,(B1.grow (g.trans g')).cell,(B2.grow (g.trans g')).cell,(B3.grow (g.trans g')).cell,r'.bT 2 rfl⟩
 have HM:Hid (∀ E,aF A D.tick E->zk 208 #[R A.V 0,I F,zu ak,zu G,zu (D.word (af G 2):Int)] E (iQ A D.tick E (some (.cut F ak G (D.word (af G 2)))))):=fun E r=>Ku r F ak G (D.word (af G 2))
 have HG:=zG A.L w;clear hR aN B0 B1 B2 B3;have jU:D.aH (.unlink F ak G)=({D.tick with sw:=some (.cut F ak G (D.word (af G 2)))},true):=rfl;rw[jU];clear hv hsl;generalize hkk:S.cut F ak G (D.word (af G 2))=kk at*;clear hkk;generalize (D.word (af G 2):Int)=hd at*;generalize ((af G 2:Nat):Int)=ix at*;go_enter Tryz.func207,Tryz.ntmps207;go_wp2_with fail
 go_region_held3 (fun E=>zS E b0 0 A.V 0∧zV E b1 0 G∧zT E b2 0 F∧zV E b3 0 ak∧zS E A.V 2 A.ba 0)
  (first|exact⟨c0,c1,c2,c3,e2⟩|assumption|go_keep|exact HKK.out _ (by assumption) (by assumption))
  (first|(go_at_call 85;refine (HS.out _).mono ?_;rintro e w9 ⟨rfl,rfl⟩)|(go_at_call 42;refine (HL.out _ nM.out).mono ?_;rintro e H ⟨rfl,q1,q2⟩;have q4:=HG.out.trans q2))
 obtain⟨d0,d1,d2,d3,d9⟩:=HKK.out _ q1 q4;have tZ:=U q1.drew;have AX:=U (q4.trans (Grow.drew _ _));go_wp2_with fail
 go_region_held3 (fun E=>zS E b0 0 A.V 0∧zV E b1 0 G∧zT E b2 0 F∧zV E b3 0 ak∧zS E A.V 2 A.ba 0)
  (first|exact⟨d0,d1,d2,d3,d9⟩|assumption|go_keep|exact HKK.out _ (by assumption) (by assumption)|exact uS.out _ _ (by assumption) (by assumption))
  (first|(go_at_call 208;refine (HM.out _ tZ.out).mono ?_;rintro e w2 ⟨v,rfl,p1,p2,p3⟩;obtain⟨fv,fb,fc,e3⟩:=jA.form p3;subst e3;obtain⟨vo,y25⟩:∃ vo,w2.cell? (J A.V 25)=some vo:=⟨_,p1.bT 25 (v:=A.sv D.tick.sw) rfl⟩;have z25:=p1.iE 25;have q5:=AX.out.trans p2;have HP:=U p3;clear p2 p3))
 go_wp2_with fail;go_ret;obtain⟨A',a1,a2,a3,a4,a5⟩:=p1.fB _ _ HP.out;exact⟨rfl,A',a1,a3,q5.trans a4,a5,fun hc=>hc.keep a2 rfl (q5.trans a4)⟩
theorem C8 (b x low:Nat) (hx:x<18446744073709551616) (w:World):zk 199 #[zu b,zu x,zu low] w fun e E=>e=.returned (.bool (dC x low))∧Below w.heap.size w E:=by
 have HR:=U (ru x hx);unfold dC;generalize (rd x).1=k at*;generalize (rd x).2=n at*;have hk1:((k:Int)=1)=(k=1):=by simp;omega
 by_cases h1:k=1
 . have f1:((k:Int)=1)=True:=by simp;omega
   have f2:((k:Int)==1)=true:=by simp;omega
   have f3:(k==1)=true:=by simp;omega
   by_cases h2:1<=n
   . have g1:((1:Int)<=(n:Int))=True:=by simp;omega
     have g2:decide ((1:Int)<=(n:Int))=true:=by simp;omega
     have g3:decide (1<=n)=true:=by simp;omega
     by_cases h3:n<=low
     . have k1:((n:Int)<=(low:Int))=True:=by simp;omega
       have k2:decide ((n:Int)<=(low:Int))=true:=by simp;omega
       have k3:decide (n<=low)=true:=by simp;omega
       rw[f3,g3,k3];clear h1 h2 h3 hk1 hx;go_enter Tryz.func199,Tryz.ntmps199;go_wp2_with (go_at_call 108;refine (HR.out _).mono ?_;rintro e H ⟨rfl,Z⟩;have HB:=U Z;clear Z);go_ret;exact⟨rfl,HB.out.alloc HB.out.size _⟩
     . have k1:((n:Int)<=(low:Int))=False:=by simp;omega
       have k2:decide ((n:Int)<=(low:Int))=false:=by simp;omega
       have k3:decide (n<=low)=false:=by simp;omega
       rw[f3,g3,k3];clear h1 h2 h3 hk1 hx;go_enter Tryz.func199,Tryz.ntmps199;go_wp2_with (go_at_call 108;refine (HR.out _).mono ?_;rintro e H ⟨rfl,Z⟩;have HB:=U Z;clear Z);go_ret;exact⟨rfl,HB.out.alloc HB.out.size _⟩
   . have g1:((1:Int)<=(n:Int))=False:=by simp;omega
     have g2:decide ((1:Int)<=(n:Int))=false:=by simp;omega
     have g3:decide (1<=n)=false:=by simp;omega
     rw[f3,g3];clear h1 h2 hk1 hx;go_enter Tryz.func199,Tryz.ntmps199;go_wp2_with (go_at_call 108;refine (HR.out _).mono ?_;rintro e H ⟨rfl,Z⟩;have HB:=U Z;clear Z);go_ret;exact⟨rfl,HB.out.alloc HB.out.size _⟩
 . have f1:((k:Int)=1)=False:=by simp;omega
   have f2:((k:Int)==1)=false:=by simp;omega
   have f3:(k==1)=false:=by simp;omega
   rw[f3];clear h1 hk1 hx;go_enter Tryz.func199,Tryz.ntmps199;go_wp2_with (go_at_call 108;refine (HR.out _).mono ?_;rintro e H ⟨rfl,Z⟩;have HB:=U Z;clear Z);go_ret;exact⟨rfl,HB.out.alloc HB.out.size _⟩
theorem o9 (hR:aF A D w) (cb dl:Nat) (hd:D.count=cb+dl) (hc:D.count<4000000000000000000) (hlk:D.aA<1000000000000000000) (hdl:dl<1000000) (b0 b1:Nat) (B0:aP A.L w b0 (R A.V 0)) (B1:aP A.L w b1 (I cb)):
 CallsD Tryz.prog 72 #[R b0 0,R b1 0] .returning w fun e u E=>e=.returned (.tuple #[])∧u=.returning∧aF A {D with aA:=D.aA+dl} E∧Grow A.L w A.L E:=by
 have c0:=B0.cell;have c1:=B1.cell;have e2:=hR.z2;have e23:w.cell? (J A.V 23)=zt (D.aA:Int):=hR.bT 23 rfl;have n1:IntKind.i64.wrap (((cb+dl:Nat):Int) - (cb:Int))=(dl:Int):=by rw[je];omega
 have n2:IntKind.i64.wrap ((D.aA:Int)+(dl:Int))=((D.aA+dl:Nat):Int):=by rw[je];omega
 have HC:=U ((jf hR.drew hc).mono (fun e w9 h=>(⟨h.1,h.2.symm⟩:e=_∧w9=w.drew)));rw[hd] at HC;have HL:=U (hR.drew.rY (D.aA+dl));have HR:=U hR;clear hR hd hc hlk hdl B0 B1;generalize ((cb+dl:Nat):Int)=c2 at*;generalize hlz:((D.aA+dl:Nat):Int)=lz at*;refine callsD_of_wpS Tryz.func72 rfl fun c₀ cs hu=>?_
 refine wpS_of_wp ?_;change Code.wp _ _ _ {tmps:=#[R b0 0,R b1 0,undef,undef,undef,undef,undef,undef,undef,undef,undef,undef,undef,undef,undef,undef],defers:=[]} w;have Yn:=U hu;clear hu;generalize hQ:(fun (e:Exit) (a':Act) (E:World)=>bodyPostS _ _ _ _ _ e a' _ E)=Q;have HQ:=U hQ;clear hQ;go_wp2_with fail;refine wp_region_still_tail 14 (by kernel_rfl) (by kernel_rfl) ?_;simp only[jZ,j6,kg,kr]
 repeat still_step
 still_call HC.out
 repeat still_step
 refine wpStill_nil ?_;change wpList _ _ _ _ _ w.drew;have y23:w.drew.cell? (J A.V 23)=zt (D.aA:Int):=e23;have z23:w.drew.frozen? (J A.V 23)=false:=HR.out.iE 23;have HG:=U (Grow.drew A.L w);generalize w.drew=wd at*;go_wp2_with fail;rw[<-HQ.out];have hu:=Yn.out;have hr:=zA HL.out.1 (HG.out.trans HL.out.2)
 cases c₀
 simp_all[bodyPostS,results,Tryz.results72]
end Go.Proofs.YthicolbbmjfkfaaGreat.Em
