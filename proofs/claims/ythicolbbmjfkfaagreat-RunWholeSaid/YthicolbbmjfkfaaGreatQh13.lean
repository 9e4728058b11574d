import Derived.Test.YthicolbbmjfkfaaGreatQh9
set_option linter.unusedVariables false
set_option linter.unusedSimpArgs false
set_option maxRecDepth 100000
set_option maxHeartbeats 1600000
namespace Go.Proofs.YthicolbbmjfkfaaGreat.Em
open Go.ChangeShapes Go.WideShapes Go.ChangeAt Go.RowKit En
variable {A:au} {D:St} {w:World}
theorem Aj (hR:aD A D w) (s:Nat) (t:bB) (ht:D.ag.getD s none=some t) (c:dF) (hc:D.calls.getD s none=some c) (hx:t.cell c.op.E=none):
 zk 98 #[R A.Y 0,R (A.bt s) 0,R (A.bc s) 0] w (aZ A w s (D,.start ⟨c.op.E,t.aG,.change⟩)):=by
 obtain⟨r3,g3,_,_,_⟩:=iO hR #[R A.Y 0] 32 #[R (A.bt s) 0] 100 #[R (A.bc s) 0] 105;have k1:=r3.call hc 1 (v:=I c.op.E) rfl;obtain⟨r4,g4,f0,f1,f2,f3⟩:=jB hR #[R A.Y 0] 32 #[R (A.bt s) 0] 100 #[R (A.bc s) 0] 105 #[I c.op.E] 3;have a0:=f0.cell 0 (v:=R A.Y 0) rfl;have a1:=f1.cell 0 (v:=R (A.bt s) 0) rfl;have a2:=f2.cell 0 (v:=R (A.bc s) 0) rfl;have a3:=f3.cell 0 (v:=I c.op.E) rfl;have a7:=r4.dZ ht 7 (v:=.map (some (A.bm s))) rfl;have ab:=r4.dZ ht 3 (v:=zu t.aG) rfl;have hlk:=fun n=>eX (r4.drewN n) ht c.op.E
 have hpx:A.px s t c.op.E=.pointer none:=by unfold au.px;rw[hx];rfl
 rw[hpx] at hlk;have gd:=fun n=>(Grow.drewN A.L ((((w.alloc (.cells #[R A.Y 0] 32)).alloc (.cells #[R (A.bt s) 0] 100)).alloc (.cells #[R (A.bc s) 0] 105)).alloc (.cells #[I c.op.E] 3)) n).trans (Grow.drew A.L _)
 have HF:=U (fun n=>zA (qz (r4.drewN n).drew s c.op.E t.aG (.func (.func 130) #[] #[.pointer (some ⟨w.heap.size+1+1,0,none⟩),.pointer (some ⟨w.heap.size+1,0,none⟩),.pointer (some ⟨w.heap.size+1+1+1,0,none⟩),R w.heap.size 0]) .change ⟨_,_,_,_,rfl,f2.box.grow (gd n),f1.box.grow (gd n),f3.box.grow (gd n),f0.box.grow (gd n)⟩) (g4.trans (gd n)));clear hR ht hc hx r3 g3 r4 g4 f0 f1 f2 f3 gd hpx;generalize c.op.E=E at*;generalize t.aG=bg at*;go_enter Tryz.func98,Tryz.ntmps98;go_wp2_with fail;generalize (((w.alloc _).alloc _).alloc _).alloc _=w4 at*
 go_quiet (fail)
 go_wp2_with fail;generalize iG:w4.drewN _=w5;have e0:w5.cell? (J w.heap.size 0)=zs A.Y 0:=by rw[<-iG];exact a0
 have e1:w5.cell? ⟨w.heap.size+1,0,none⟩=zs (A.bt s) 0:=by rw[<-iG];exact a1
 have e3:w5.cell? ⟨w.heap.size+1+1+1,0,none⟩=zt E:=by rw[<-iG];exact a3
 have eb:w5.cell? (J (A.bt s) 3)=zv bg:=by rw[<-iG];exact ab
 have OM:∀ n,w4.drewN n=w5->zk 114 #[R A.Y 0,R (A.bt s) 0,I E,zu bg,.func (.func 130) #[] #[.pointer (some ⟨w.heap.size+1+1,0,none⟩),.pointer (some ⟨w.heap.size+1,0,none⟩),.pointer (some ⟨w.heap.size+1+1+1,0,none⟩),R w.heap.size 0]] w5.drew (aZ A w5.drew s (D,.start ⟨E,bg,.change⟩))∧Grow A.L w A.L w5.drew:=fun n h=>by rw[<-h];exact HF.out n
 have IL:=OM _ iG;have OO:=U IL;clear a0 a1 a2 a3 a7 ab hlk HF OM IL iG;refine wp_region_still_tail 8 (by kernel_rfl) (by kernel_rfl) ?_;simp only[jk,jl,jm,jo]
 repeat still_step
 refine wpStill_nil ?_;go_wp2_with (go_at_call 114;refine (OO.out.1).mono ?_;rintro e w2 ⟨A2,v,rfl,p1,p2,p3,p4⟩);go_ret;exact⟨A2,v,rfl,p1,OO.out.2.trans p2,p3,p4⟩
theorem Ak (hR:aD A D w) (s:Nat) (c:dF) (hc:D.calls.getD s none=some c) (Q:Ending->World->Prop) (h1:c.op.kind=1->zk 94 #[R A.Y 0,R (A.bt s) 0,R (A.bc s) 0] w Q) (h5:c.op.kind=5->zk 95 #[R A.Y 0,R (A.bt s) 0,R (A.bc s) 0,I c.op.E] w Q) (h6:c.op.kind=6->zk 96 #[R A.Y 0,R (A.bt s) 0,R (A.bc s) 0] w Q) (h7:c.op.kind=7->zk 97 #[R A.Y 0,R (A.bt s) 0,R (A.bc s) 0,I 0,I 1] w Q)
 (hz:c.op.kind≠1->c.op.kind≠5->c.op.kind≠6->c.op.kind≠7->zk 98 #[R A.Y 0,R (A.bt s) 0,R (A.bc s) 0] w Q) (hQ:∀ e G,Q e G->∃ v,e=.returned v):
 zk 70 #[R A.Y 0,R (A.bt s) 0,R (A.bc s) 0] w Q:=by
 have k0:w.cell? (J (A.bc s) 0)=zt c.op.kind:=hR.call hc 0 rfl;have k1:w.cell? (J (A.bc s) 1)=zt c.op.E:=hR.call hc 1 rfl;clear hR hc;generalize c.op.kind=kd at*;generalize c.op.E=E at*;have HQ:=U hQ;clear hQ
 by_cases k1':kd=1
 . subst k1'
   have ND:w.cell? (J (A.bc s) 0)=zt 1:=k0;clear k0;have HC:=U (h1 rfl);clear h1 h5 h6 h7 hz;go_enter Tryz.func70,Tryz.ntmps70;go_wp2_with (go_at_call 94;refine HC.out.mono ?_;intro e w2 hq;obtain⟨v,rfl⟩:=HQ.out e w2 hq;have HV:=U hq;clear hq);exact HV.out
 . skip
   by_cases OP:kd=5
   . subst OP
     have ND:w.cell? (J (A.bc s) 0)=zt 5:=k0;clear k0;have HC:=U (h5 rfl);clear h1 h5 h6 h7 hz;clear k1';go_enter Tryz.func70,Tryz.ntmps70;go_wp2_with (go_at_call 95;refine HC.out.mono ?_;intro e w2 hq;obtain⟨v,rfl⟩:=HQ.out e w2 hq;have HV:=U hq;clear hq);exact HV.out
   . skip
     by_cases Qu:kd=6
     . subst Qu
       have ND:w.cell? (J (A.bc s) 0)=zt 6:=k0;clear k0;have HC:=U (h6 rfl);clear h1 h5 h6 h7 hz;clear k1' OP;go_enter Tryz.func70,Tryz.ntmps70;go_wp2_with (go_at_call 96;refine HC.out.mono ?_;intro e w2 hq;obtain⟨v,rfl⟩:=HQ.out e w2 hq;have HV:=U hq;clear hq);exact HV.out
     . skip
       by_cases QT:kd=7
       . subst QT
         have ND:w.cell? (J (A.bc s) 0)=zt 7:=k0;clear k0;have HC:=U (h7 rfl);clear h1 h5 h6 h7 hz;clear k1' OP Qu;go_enter Tryz.func70,Tryz.ntmps70;go_wp2_with (go_at_call 97;refine HC.out.mono ?_;intro e w2 hq;obtain⟨v,rfl⟩:=HQ.out e w2 hq;have HV:=U hq;clear hq);exact HV.out
       . skip
         have a1:((kd:Int)==1)=false:=by simp;omega
         have b1:((kd:Int)=1)=False:=by simp;omega
         have n1:(kd=1)=False:=by simp;omega
         have a5:((kd:Int)==5)=false:=by simp;omega
         have b5:((kd:Int)=5)=False:=by simp;omega
         have n5:(kd=5)=False:=by simp;omega
         have a6:((kd:Int)==6)=false:=by simp;omega
         have b6:((kd:Int)=6)=False:=by simp;omega
         have n6:(kd=6)=False:=by simp;omega
         have a7:((kd:Int)==7)=false:=by simp;omega
         have b7:((kd:Int)=7)=False:=by simp;omega
         have n7:(kd=7)=False:=by simp;omega
         have HC:=U (hz k1' OP Qu QT);clear h1 h5 h6 h7 hz;clear k1' OP Qu QT;go_enter Tryz.func70,Tryz.ntmps70;go_wp2_with (go_at_call 98;refine HC.out.mono ?_;intro e w2 hq;obtain⟨v,rfl⟩:=HQ.out e w2 hq;have HV:=U hq;clear hq);exact HV.out
theorem JJ (hR:aD A D w) (s:Nat) (x now:Nat) (hx:x<18446744073709551616) (hi:aT x<=2000) (aQ:D.count<4000000000000000000) (b0 b1 b2:Nat)
 (B0:aK A.L w b0 (R A.Y 0)) (B1:aK A.L w b1 (zu x)) (B2:lU (kp A D s) A.L w b2 x now):
 zk 123 #[R b0 0,R b1 0,R b2 0] w (jO A w s (D.run s (.dJ x now))):=by
 have c0:=B0.cell;have c1:=B1.cell;have HH:=U (tQ hR x hx hi aQ);obtain⟨tv,X2,m0,m1,m2,m3,m4,FI,N0,N1,N2,N3,N4⟩:=B2;have HB:Hid (∀ H,Grow A.L w A.L H->H.cell? (J b2 0)=some tv):=fun H g=>(X2.grow g).cell
 have HN:=U (zA N0 (zA N1 (zA N2 (zA N3 N4))));have aN:D.run s (.dJ x now)=(D.bT x,some (.turn x now)):=rfl;rw[aN];clear hR hx hi aQ B0 B1 X2 N0 N1 N2 N3 N4 aN;subst FI;go_enter Tryz.func123,Tryz.ntmps123;go_wp2_with (go_at_call 44;refine HH.out.mono ?_;rintro e H ⟨rfl,q1,q2⟩;have d2:=HB.out H q2;have HQ:=U (zA q1 q2);clear q1 q2);go_ret;obtain⟨q1,q2⟩:=HQ.out;obtain⟨N0,N1,N2,N3,N4⟩:=HN.out;exact⟨A,_,rfl,q1,q2,bL.refl _ _,_,_,_,_,_,rfl,N0.grow q2,N1.grow q2,N2.grow q2,N3.grow q2,N4.grow q2⟩
theorem Al (hR:aD A D w) (s:Nat) (hx:D.word 0<18446744073709551616) (aQ:D.count<4000000000000000000) (b0 b1 b2:Nat)
 (B0:aK A.L w b0 (R A.Y 0)) (B1:aK A.L w b1 (R (A.bt s) 0)) (B2:aK A.L w b2 (R (A.bc s) 0)) (ho:D.limit<=ai (D.word 0)):
 zk 119 #[R b0 0,R b1 0,R b2 0] w (jO A w s (D.run s .draw)):=by
 have c0:=B0.cell;have e2:=hR.z2;have HL:=U (oz hR 0 0 rfl (by rw[hR.nw];omega) aQ);have HD:=U (fun G=>kU (D.word 0) hx G);have HB:Hid (∀ H,aD A D.tick H->Grow A.L w A.L H->∀ W3,(H.alloc (.cells #[zu (D.word 0:Int)] 25)).alloc (.cells #[zu (ai (D.word 0):Int)] 25)=W3->∀ n w5,W3.drewN n=w5->aD A D.tick w5∧Grow A.L w A.L w5∧Fix A.L w5 H.heap.size (.cells #[zu (D.word 0:Int)] 25)∧Fix A.L w5 (H.heap.size+1) (.cells #[zu (ai (D.word 0):Int)] 25)∧zS w5 b0 0 A.Y 0∧zS w5 b1 0 (A.bt s) 0∧zS w5 b2 0 (A.bc s) 0∧zV w5 A.Y 1 (D.limit:Int)∧zV W3 H.heap.size 0 (D.word 0:Int)∧W3.cell? ⟨H.heap.size+1,0,none⟩=zv (ai (D.word 0):Int)∧zS W3 b0 0 A.Y 0∧zV W3 A.Y 1 (D.limit:Int)):=by
  rintro H q1 q2 W3 rfl n w5 rfl;obtain⟨r3,g3,f0,f1⟩:=kL q1 #[zu (D.word 0:Int)] 25 #[zu (ai (D.word 0):Int)] 25;have gd:=Grow.drewN A.L ((H.alloc (.cells #[zu (D.word 0:Int)] 25)).alloc (.cells #[zu (ai (D.word 0):Int)] 25)) n;have gg:=(q2.trans g3).trans gd;exact⟨r3.drewN n,gg,f0.grow gd,f1.grow gd,(B0.grow gg).cell,(B1.grow gg).cell,(B2.grow gg).cell,(r3.drewN n).eH 1 rfl,f0.cell 0 rfl,f1.cell 0 rfl,(B0.grow (q2.trans g3)).cell,r3.eH 1 rfl⟩
 have HX:=U (zA B0 (zA B1 B2));have aN:D.run s .draw=(D.tick,some (.abort 14 6)):=by simp only[St.run];exact aV ho
 rw[aN];clear hR hx aQ B0 B1 B2 aN;generalize D.word 0=x at*;generalize ai x=now at*;generalize aT x=last at*;generalize D.limit=lim at*;have d1:decide ((lim:Int)<=(now:Int))=true:=by simpa using ho
 have d2:((lim:Int)<=(now:Int))=True:=by simpa using ho
 have d3:(lim<=now)=True:=by simpa using ho
 clear ho;go_enter Tryz.func119,Tryz.ntmps119;go_wp2_with (first|(go_at_call 42;refine HL.out.mono ?_;rintro e H ⟨rfl,q1,q2⟩;obtain⟨_,_,_,_,_,_,_,_,y1,y2,y3,y4⟩:=HB.out H q1 q2 _ rfl 0 _ rfl;have HQ:=U (zA q1 q2);clear q1 q2)|(go_at_call 43;refine (HD.out _).mono ?_;rintro e G ⟨rfl,rfl⟩));generalize hw3:(H.alloc _).alloc _=w3 at*
 go_quiet (fail)
 generalize iG:w3.drewN _=w5;obtain⟨r5,g5,f0,f1,z0,z1,z2,z3,_⟩:=HB.out H HQ.out.1 HQ.out.2 w3 hw3 _ w5 iG;clear y1 y2 y3 y4 hw3 iG;have ha:zk 97 #[R A.Y 0,R (A.bt s) 0,R (A.bc s) 0,I 14,I 6] w5 (aZ A w5 s (D.tick,.abort 14 6)):=iP r5 s 14 6;have HA:=U (zA ha g5);clear r5 g5 f0 f1 ha;go_wp2_with (go_at_call 97;refine HA.out.1.mono ?_;rintro e w2 ⟨A2,v,rfl,p1,p2,p3,p4⟩);go_ret;exact⟨A2,v,rfl,p1,HA.out.2.trans p2,p3,p4⟩
theorem Am (hR:aD A D w) (s:Nat) (hx:D.word 0<18446744073709551616) (aQ:D.count<4000000000000000000) (b0 b1 b2:Nat)
 (B0:aK A.L w b0 (R A.Y 0)) (B1:aK A.L w b1 (R (A.bt s) 0)) (B2:aK A.L w b2 (R (A.bc s) 0)) (ho:¬ D.limit<=ai (D.word 0)) (hl:aT (D.word 0)=0):
 zk 119 #[R b0 0,R b1 0,R b2 0] w (jO A w s (D.run s .draw)):=by
 have c0:=B0.cell;have e2:=hR.z2;have HL:=U (oz hR 0 0 rfl (by rw[hR.nw];omega) aQ);have HD:=U (fun G=>kU (D.word 0) hx G);have HB:Hid (∀ H,aD A D.tick H->Grow A.L w A.L H->∀ W3,(H.alloc (.cells #[zu (D.word 0:Int)] 25)).alloc (.cells #[zu (ai (D.word 0):Int)] 25)=W3->∀ n w5,W3.drewN n=w5->aD A D.tick w5∧Grow A.L w A.L w5∧Fix A.L w5 H.heap.size (.cells #[zu (D.word 0:Int)] 25)∧Fix A.L w5 (H.heap.size+1) (.cells #[zu (ai (D.word 0):Int)] 25)∧zS w5 b0 0 A.Y 0∧zS w5 b1 0 (A.bt s) 0∧zS w5 b2 0 (A.bc s) 0∧zV w5 A.Y 1 (D.limit:Int)∧zV W3 H.heap.size 0 (D.word 0:Int)∧W3.cell? ⟨H.heap.size+1,0,none⟩=zv (ai (D.word 0):Int)∧zS W3 b0 0 A.Y 0∧zV W3 A.Y 1 (D.limit:Int)):=by
  rintro H q1 q2 W3 rfl n w5 rfl;obtain⟨r3,g3,f0,f1⟩:=kL q1 #[zu (D.word 0:Int)] 25 #[zu (ai (D.word 0):Int)] 25;have gd:=Grow.drewN A.L ((H.alloc (.cells #[zu (D.word 0:Int)] 25)).alloc (.cells #[zu (ai (D.word 0):Int)] 25)) n;have gg:=(q2.trans g3).trans gd;exact⟨r3.drewN n,gg,f0.grow gd,f1.grow gd,(B0.grow gg).cell,(B1.grow gg).cell,(B2.grow gg).cell,(r3.drewN n).eH 1 rfl,f0.cell 0 rfl,f1.cell 0 rfl,(B0.grow (q2.trans g3)).cell,r3.eH 1 rfl⟩
 have HX:=U (zA B0 (zA B1 B2));have aN:D.run s .draw=(D.tick,some (.turn (D.word 0) (ai (D.word 0)))):=by simp only[St.run];rw[aX (show ¬ D.tick.limit<=_ from ho),aV hl]
 rw[aN];clear hR hx aQ B0 B1 B2 aN;generalize D.word 0=x at*;generalize ai x=now at*;generalize aT x=last at*;generalize D.limit=lim at*;have d1:decide ((lim:Int)<=(now:Int))=false:=by simpa using ho
 have d2:((lim:Int)<=(now:Int))=False:=by simpa using ho
 have d3:(lim<=now)=False:=by simpa using ho
 have l1:((last:Int)==0)=true:=by simpa using hl
 have l2:((last:Int)=0)=True:=by simpa using hl
 clear ho hl;go_enter Tryz.func119,Tryz.ntmps119;go_wp2_with (first|(go_at_call 42;refine HL.out.mono ?_;rintro e H ⟨rfl,q1,q2⟩;obtain⟨_,_,_,_,_,_,_,_,y1,y2,y3,y4⟩:=HB.out H q1 q2 _ rfl 0 _ rfl;have HQ:=U (zA q1 q2);clear q1 q2)|(go_at_call 43;refine (HD.out _).mono ?_;rintro e G ⟨rfl,rfl⟩));generalize hw3:(H.alloc _).alloc _=w3 at*
 go_quiet (fail)
 generalize iG:w3.drewN _=w5;obtain⟨r5,g5,f0,f1,z0,z1,z2,z3,_⟩:=HB.out H HQ.out.1 HQ.out.2 w3 hw3 _ w5 iG;clear y1 y2 y3 y4 hw3 iG;obtain⟨r6,g6,f2⟩:=cB r5 #[.func (.func 120) #[] #[R b0 0,R H.heap.size 0,.pointer (some ⟨H.heap.size+1,0,none⟩),R b1 0,R b2 0]] 138;have u7:=f2.cell 0 (v:=.func (.func 120) #[] #[R b0 0,R H.heap.size 0,.pointer (some ⟨H.heap.size+1,0,none⟩),R b1 0,R b2 0]) rfl;have HZ:=U (zA r6 (zA (g5.trans g6) (zA (f0.grow g6) (zA (f1.grow g6) f2))));clear r5 g5 f0 f1 r6 g6 f2;go_wp2_with fail;go_ret;obtain⟨r6,g6,f0,f1,f2⟩:=HZ.out;obtain⟨B0,B1,B2⟩:=HX.out;exact⟨A,_,rfl,r6,g6,bL.refl _ _,_,_,_,_,_,rfl,B0.grow g6,f0.box,f1.box,B1.grow g6,B2.grow g6⟩
theorem Ao (hR:aD A D w) (s:Nat) (hx:D.word 0<18446744073709551616) (aQ:D.count<4000000000000000000) (b0 b1 b2:Nat)
 (B0:aK A.L w b0 (R A.Y 0)) (B1:aK A.L w b1 (R (A.bt s) 0)) (B2:aK A.L w b2 (R (A.bc s) 0)) (ho:¬ D.limit<=ai (D.word 0)) (hl:aT (D.word 0)≠0):
 zk 119 #[R b0 0,R b1 0,R b2 0] w (jO A w s (D.run s .draw)):=by
 have c0:=B0.cell;have e2:=hR.z2;have HL:=U (oz hR 0 0 rfl (by rw[hR.nw];omega) aQ);have HD:=U (fun G=>kU (D.word 0) hx G);have HB:Hid (∀ H,aD A D.tick H->Grow A.L w A.L H->∀ W3,(H.alloc (.cells #[zu (D.word 0:Int)] 25)).alloc (.cells #[zu (ai (D.word 0):Int)] 25)=W3->∀ n w5,W3.drewN n=w5->aD A D.tick w5∧Grow A.L w A.L w5∧Fix A.L w5 H.heap.size (.cells #[zu (D.word 0:Int)] 25)∧Fix A.L w5 (H.heap.size+1) (.cells #[zu (ai (D.word 0):Int)] 25)∧zS w5 b0 0 A.Y 0∧zS w5 b1 0 (A.bt s) 0∧zS w5 b2 0 (A.bc s) 0∧zV w5 A.Y 1 (D.limit:Int)∧zV W3 H.heap.size 0 (D.word 0:Int)∧W3.cell? ⟨H.heap.size+1,0,none⟩=zv (ai (D.word 0):Int)∧zS W3 b0 0 A.Y 0∧zV W3 A.Y 1 (D.limit:Int)):=by
  rintro H q1 q2 W3 rfl n w5 rfl;obtain⟨r3,g3,f0,f1⟩:=kL q1 #[zu (D.word 0:Int)] 25 #[zu (ai (D.word 0):Int)] 25;have gd:=Grow.drewN A.L ((H.alloc (.cells #[zu (D.word 0:Int)] 25)).alloc (.cells #[zu (ai (D.word 0):Int)] 25)) n;have gg:=(q2.trans g3).trans gd;exact⟨r3.drewN n,gg,f0.grow gd,f1.grow gd,(B0.grow gg).cell,(B1.grow gg).cell,(B2.grow gg).cell,(r3.drewN n).eH 1 rfl,f0.cell 0 rfl,f1.cell 0 rfl,(B0.grow (q2.trans g3)).cell,r3.eH 1 rfl⟩
 have HX:=U (zA B0 (zA B1 B2));have aN:D.run s .draw=(D.tick,some (.dJ (D.word 0) (ai (D.word 0)))):=by simp only[St.run];rw[aX (show ¬ D.tick.limit<=_ from ho),aX hl]
 rw[aN];clear hR hx aQ B0 B1 B2 aN;generalize D.word 0=x at*;generalize ai x=now at*;generalize aT x=last at*;generalize D.limit=lim at*;have d1:decide ((lim:Int)<=(now:Int))=false:=by simpa using ho
 have d2:((lim:Int)<=(now:Int))=False:=by simpa using ho
 have d3:(lim<=now)=False:=by simpa using ho
 have l1:((last:Int)==0)=false:=by simpa using hl
 have l2:((last:Int)=0)=False:=by simpa using hl
 clear ho hl;go_enter Tryz.func119,Tryz.ntmps119;go_wp2_with (first|(go_at_call 42;refine HL.out.mono ?_;rintro e H ⟨rfl,q1,q2⟩;obtain⟨_,_,_,_,_,_,_,_,y1,y2,y3,y4⟩:=HB.out H q1 q2 _ rfl 0 _ rfl;have HQ:=U (zA q1 q2);clear q1 q2)|(go_at_call 43;refine (HD.out _).mono ?_;rintro e G ⟨rfl,rfl⟩));generalize hw3:(H.alloc _).alloc _=w3 at*
 go_quiet (fail)
 generalize iG:w3.drewN _=w5;obtain⟨r5,g5,f0,f1,z0,z1,z2,z3,_⟩:=HB.out H HQ.out.1 HQ.out.2 w3 hw3 _ w5 iG;clear y1 y2 y3 y4 hw3 iG;obtain⟨r6,g6,f2⟩:=cB r5 #[.func (.func 120) #[] #[R b0 0,R H.heap.size 0,.pointer (some ⟨H.heap.size+1,0,none⟩),R b1 0,R b2 0]] 138;have u7:=f2.cell 0 (v:=.func (.func 120) #[] #[R b0 0,R H.heap.size 0,.pointer (some ⟨H.heap.size+1,0,none⟩),R b1 0,R b2 0]) rfl;have HZ:=U (zA r6 (zA (g5.trans g6) (zA (f0.grow g6) (zA (f1.grow g6) f2))));clear r5 g5 f0 f1 r6 g6 f2;go_wp2_with fail;go_ret;obtain⟨r6,g6,f0,f1,f2⟩:=HZ.out;obtain⟨B0,B1,B2⟩:=HX.out;exact⟨A,_,rfl,r6,g6,bL.refl _ _,_,_,_,rfl,B0.grow g6,f0.box,_,f2.box,_,_,_,_,_,rfl,B0.grow g6,f0.box,f1.box,B1.grow g6,B2.grow g6⟩
theorem Mg (hR:aD A D w) (s:Nat) (hx:D.word 0<18446744073709551616) (aQ:D.count<4000000000000000000) (b0 b1 b2:Nat)
 (B0:aK A.L w b0 (R A.Y 0)) (B1:aK A.L w b1 (R (A.bt s) 0)) (B2:aK A.L w b2 (R (A.bc s) 0)):
 zk 119 #[R b0 0,R b1 0,R b2 0] w (jO A w s (D.run s .draw)):=by
 by_cases ho:D.limit<=ai (D.word 0)
 . exact Al hR s hx aQ b0 b1 b2 B0 B1 B2 ho
 . by_cases hl:aT (D.word 0)=0
   . exact Am hR s hx aQ b0 b1 b2 B0 B1 B2 ho hl
   . exact Ao hR s hx aQ b0 b1 b2 B0 B1 B2 ho hl
theorem Ap (hR:aD A D w) (s:Nat) (t:bB) (ht:D.ag.getD s none=some t) (x now:Nat) (hn:now<281474976710655) (hid:t.id<65536) (htl:D.aP.length<1000000) (aQ:D.count<4000000000000000000) (b0 b1 b2 b3 b4:Nat)
 (B0:aK A.L w b0 (R A.Y 0)) (B1:aK A.L w b1 (zu x)) (B2:aK A.L w b2 (zu now)) (B3:aK A.L w b3 (R (A.bt s) 0)) (B4:aK A.L w b4 (R (A.bc s) 0)) (hm:D.word 0≠x):
 zk 120 #[R b0 0,R b1 0,R b2 0,R b3 0,R b4 0] w (jO A w s (D.run s (.turn x now))):=by
 have c0:=B0.cell;have c1:=B1.cell;have c2:=B2.cell;have c3:=B3.cell;have e2:=hR.z2;have t0:w.cell? (J (A.bt s) 0)=zt t.id:=hR.dZ ht 0 rfl;have n1:IntKind.u64.wrap ((now:Int)+1)=(now:Int)+1:=by rw[IntKind.wrap_u64];omega
 have V:zk 46 #[zu ((now:Int)+1),I t.id] w.drew fun e G=>e=.returned (zu ((aO (now+1) t.id:Nat):Int))∧G=w.drew:=flip (mE (now+1) t.id (by omega) hid w.drew)
 have HC:=U V;have HL:=U (rX hR.drew 0 x (aO (now+1) t.id) 0 rfl (by rw[hR.nw];omega) aQ);have HG:=zG A.L w;have aN:D.run s (.turn x now)=(D.tick,some .draw):=by simp[St.run,St.bP,hm]
 rw[aN];have Z:(D.word 0==x)=false:=by simpa using hm
 have hcs:D.bP 0 x (aO (now+1) t.id)=D.tick:=aX hm;rw[Z,hcs] at HL;have HB:Hid (∀ H,aD A D.tick H->Grow A.L w A.L H->zk 96 #[R A.Y 0,R (A.bt s) 0,R (A.bc s) 0] H (aZ A H s (D.tick,.draw))∧zS H b0 0 A.Y 0∧zS H b3 0 (A.bt s) 0∧zS H b4 0 (A.bc s) 0):=
  fun H q g=>⟨zL q s,(B0.grow g).cell,(B3.grow g).cell,(B4.grow g).cell⟩
 clear hR ht hn hid htl aQ B0 B1 B2 B3 B4 hm aN Z hcs V;go_enter Tryz.func120,Tryz.ntmps120;go_wp2_with fail;refine wp_region_still_tail 12 (by kernel_rfl) (by kernel_rfl) ?_;simp only[jk,jl,jm,jo]
 repeat still_step
 still_call HC.out
 refine wpStill_nil ?_;change wpList _ _ _ _ _ w.drew;generalize w.drew=wd at*;go_wp2_with (first|(go_at_call 45;refine HL.out.mono ?_;rintro e H ⟨rfl,q1,q2⟩;have g1:=HG.out.trans q2;obtain⟨hf,d0,d3,d4⟩:=HB.out H q1 g1;have HQ:=U (zA hf g1);clear q1 q2 g1 hf)|(go_at_call 96;refine HQ.out.1.mono ?_;rintro e w2 ⟨A2,v,rfl,p1,p2,p3,p4⟩));go_ret;exact⟨A2,v,rfl,p1,HQ.out.2.trans p2,p3,p4⟩
theorem Cq (hR:aD A D w) (s:Nat) (t:bB) (ht:D.ag.getD s none=some t) (x now:Nat) (hn:now<281474976710655) (hid:t.id<65536) (htl:D.aP.length<1000000) (aQ:D.count<4000000000000000000) (b0 b1 b2 b3 b4:Nat)
 (B0:aK A.L w b0 (R A.Y 0)) (B1:aK A.L w b1 (zu x)) (B2:aK A.L w b2 (zu now)) (B3:aK A.L w b3 (R (A.bt s) 0)) (B4:aK A.L w b4 (R (A.bc s) 0)) (hm:D.word 0=x):
 zk 120 #[R b0 0,R b1 0,R b2 0,R b3 0,R b4 0] w (jO A w s (D.run s (.turn x now))):=by
 have c0:=B0.cell;have c1:=B1.cell;have c2:=B2.cell;have c3:=B3.cell;have e2:=hR.z2;have t0:w.cell? (J (A.bt s) 0)=zt t.id:=hR.dZ ht 0 rfl;have n1:IntKind.u64.wrap ((now:Int)+1)=(now:Int)+1:=by rw[IntKind.wrap_u64];omega
 have V:zk 46 #[zu ((now:Int)+1),I t.id] w.drew fun e G=>e=.returned (zu ((aO (now+1) t.id:Nat):Int))∧G=w.drew:=flip (mE (now+1) t.id (by omega) hid w.drew)
 have HC:=U V;have HL:=U (rX hR.drew 0 x (aO (now+1) t.id) 0 rfl (by rw[hR.nw];omega) aQ);have HG:=zG A.L w;have aN:D.run s (.turn x now)=(((D.put 0 (aO (now+1) t.id)).bq s {t with ax:=now+1}).event {kind:=3,t:=t.id,n:=now+1},some .dD):=by
  have e:∀ bE:St,bE.ag=D.ag->bE.t s=t:=fun bE h=>by unfold St.t;rw[h,ht];rfl
  simp[St.run,St.bP,hm,e _ (show (D.put 0 (aO (now+1) t.id)).ag=D.ag from rfl),e D rfl]
 rw[aN];have Z:(D.word 0==x)=true:=by simpa using hm
 have hcs:D.bP 0 x (aO (now+1) t.id)=D.put 0 (aO (now+1) t.id):=aV hm;rw[Z,hcs] at HL
 have HB : Hid (∀ H, aD A (D.put 0 (aO (now + 1) t.id)) H -> Grow A.L w A.L H -> zV H b2 0 (now : Int) ∧ zS H b3 0 (A.bt s) 0 ∧ zV H (A.bt s) 4 (t.ax : Int) ∧ H.frozen? (J (A.bt s) 4) = false ∧
     (∀ ws, H.setCell (J (A.bt s) 4) (zu ((now : Int) + 1)) = ws -> zS ws b0 0 A.Y 0 ∧ zS ws b3 0 (A.bt s) 0 ∧ zT ws (A.bt s) 0 (t.id : Int) ∧ zV ws (A.bt s) 4 ((now : Int) + 1) ∧ Grow A.L w A.L ws ∧
       zk 50 #[R A.Y 0,.agg #[I 3,I t.id,zu ((now:Int)+1),I 0,I 0,I 0,I 0,I 0,I 0,.slice none 0 0,I 0,I 0]] ws.drew (Does A ws.drew s (((D.put 0 (aO (now+1) t.id)).bq s {t with ax:=now+1}).event {kind:=3,t:=t.id,n:=now+1}) (.tuple #[])))):=by
  intro H q g;have ht1:(D.put 0 (aO (now+1) t.id)).ag.getD s none=some t:=ht;refine⟨(B2.grow g).cell,(B3.grow g).cell,q.dZ ht1 4 rfl,q.tH ht1 4,?_⟩;rintro ws rfl;obtain⟨r2,g2⟩:=q.BQ ht1 {t with ax:=now+1} 4 (zu ((now:Int)+1)) (by simp[dS]) rfl rfl rfl rfl;have ht2:((D.put 0 (aO (now+1) t.id)).bq s {t with ax:=now+1}).ag.getD s none=some {t with ax:=now+1}:=by rw[cO (cz ht1),aV rfl]
  have gg:=g.trans g2;exact⟨(B0.grow gg).cell,(B3.grow gg).cell,r2.dZ ht2 0 rfl,r2.dZ ht2 4 rfl,gg,kW r2.drew s _ 3 t.id (now+1) 0 0 0 0 0 0 0 0 none 0 0 rfl (jL.nil _ _) htl⟩
 have HX:=U (zA B0 (zA B3 B4));clear hR ht hn hid htl aQ B0 B1 B2 B3 B4 hm aN Z hcs V;go_enter Tryz.func120,Tryz.ntmps120;go_wp2_with fail;refine wp_region_still_tail 12 (by kernel_rfl) (by kernel_rfl) ?_;simp only[jk,jl,jm,jo]
 repeat still_step
 still_call HC.out
 refine wpStill_nil ?_;change wpList _ _ _ _ _ w.drew;generalize w.drew=wd at*;go_wp2_with (go_at_call 45;refine HL.out.mono ?_;rintro e H ⟨rfl,q1,q2⟩;have g1:=HG.out.trans q2;obtain⟨d2,d3,d4,d5,hf⟩:=HB.out H q1 g1;have HQ:=U hf;clear q1 q2 g1 hf);generalize hws:World.setCell _ _ _=ws;obtain⟨a0,a3,a5,a4,gg,hf⟩:=HQ.out ws hws;have HE:=U (zA hf gg);clear d2 d3 d4 d5 hf gg hws HQ;refine wp_region_still_tail 10 (by kernel_rfl) (by kernel_rfl) ?_;simp only[jk,jl,jm,jo]
 repeat still_step
 refine wpStill_nil ?_;change wpList _ _ _ _ _ ws.drew;have HG2:Hid (Grow A.L ws A.L ws.drew):=Grow.drew _ _;generalize ws.drew=wd2 at*;go_wp2_with (go_at_call 50;refine HE.out.1.mono ?_;rintro e w2 ⟨rfl,A2,p1,p2,p3,p4,p5⟩;have HR:=U (zA p1 (zA p2 (zA p3 (zA p4 p5))));clear p1 p2 p3 p4 p5);go_ret;obtain⟨p1,p2,p3,p4,p5⟩:=HR.out;obtain⟨B0,B3,B4⟩:=HX.out;have g3:=(HE.out.2.trans HG2.out).trans p2;refine⟨A2,_,rfl,p1,g3,p3,?_⟩;have ek:kp A2 (((D.put 0 (aO (now+1) t.id)).bq s {t with ax:=now+1}).event {kind:=3,t:=t.id,n:=now+1}) s=kp A D s:=yc p3 p4 p5 rfl rfl;show lL (kp A2 _ s) _ _ _ _;rw[ek];exact⟨_,_,_,rfl,B0.grow g3,B3.grow g3,B4.grow g3⟩
theorem Mh (hR:aD A D w) (s:Nat) (t:bB) (ht:D.ag.getD s none=some t) (x now:Nat) (hn:now<281474976710655) (hid:t.id<65536) (htl:D.aP.length<1000000) (aQ:D.count<4000000000000000000) (b0 b1 b2 b3 b4:Nat)
 (B0:aK A.L w b0 (R A.Y 0)) (B1:aK A.L w b1 (zu x)) (B2:aK A.L w b2 (zu now)) (B3:aK A.L w b3 (R (A.bt s) 0)) (B4:aK A.L w b4 (R (A.bc s) 0)):
 zk 120 #[R b0 0,R b1 0,R b2 0,R b3 0,R b4 0] w (jO A w s (D.run s (.turn x now))):=by
 by_cases hm:D.word 0=x
 . exact Cq hR s t ht x now hn hid htl aQ b0 b1 b2 b3 b4 B0 B1 B2 B3 B4 hm
 . exact Ap hR s t ht x now hn hid htl aQ b0 b1 b2 b3 b4 B0 B1 B2 B3 B4 hm
def Told (A:au) (w:World) (s:Nat) (bE:St):Ending->World->Prop:=fun e G=>e=.returned (.tuple #[])∧∃ A',aD A' bE G∧Grow A.L w A'.L G∧bL A A' s∧A'.bx=A.bx∧A'.aR=A.aR
theorem EJ (hR:aD A D w) (s:Nat) (t:bB) (ht:D.ag.getD s none=some t) (e:Ev) (kk tt rr:Int) (hcs:lK e (.slice none 0 0)=[I kk,I tt,zu 0,I 0,I 0,I 0,I 0,I 0,I 0,.slice none 0 0,I 0,I rr]) (hp:e.res.aB=[]) (hn:D.aP.length<1000000) (b0 b1 b2:Nat) (B0:aK A.L w b0 (R (A.bt s) 0)) (B1:aK A.L w b1 (R A.Y 0)) (TT:TypeId) (X2:Fix A.L w b2 (.cells #[I kk,I tt,zu 0,I 0,I 0,I 0,I 0,I 0,I 0,.slice none 0 0,I 0,I rr] TT)):
 zk 147 #[R b0 0,R b1 0,R b2 0] w (Told A w s (D.event e)):=by
 have c0:=B0.cell;have VB:w.cell? (J (A.bt s) 13)=zb (A.jZ s):=hR.dZ ht 13 rfl;have FJ:=hR.tH ht 13;obtain⟨r1,g1⟩:=hR.I6 ht true;have VC:=(B1.grow g1).cell;have EK:=X2.grow g1;have x0:=EK.cell 0 (v:=I kk) rfl;have x1:=EK.cell 1 (v:=I tt) rfl;have x2:=EK.cell 2 (v:=zu 0) rfl;have x3:=EK.cell 3 (v:=I 0) rfl;have x4:=EK.cell 4 (v:=I 0) rfl;have x5:=EK.cell 5 (v:=I 0) rfl;have x6:=EK.cell 6 (v:=I 0) rfl;have x7:=EK.cell 7 (v:=I 0) rfl;have x8:=EK.cell 8 (v:=I 0) rfl;have x9:=EK.cell 9 (v:=.slice none 0 0) rfl;have NF:=EK.cell 10 (v:=I 0) rfl;have VD:=EK.cell 11 (v:=I rr) rfl;have he:=kW r1 s e kk tt 0 0 0 0 0 0 0 0 rr none 0 0 hcs (by rw[hp];exact jL.nil _ _) hn;have HE:=U (zA he g1);clear hR ht B0 B1 X2 EK r1 g1 he hcs hp hn;go_enter Tryz.func147,Tryz.ntmps147;go_wp2_with (go_at_call 50;refine HE.out.1.mono ?_;rintro e' w2 ⟨rfl,A2,q1,q2,q3,q4,q5⟩)
 go_end0
 exact⟨rfl,A2,q1,HE.out.2.trans q2,⟨q3.bf,q3.ba,q3.bp,q3.bt,q3.bm,q3.bc,q3.aW,q3.bG,q3.gJ,q3.mp,q3.mt,q3.bx,q3.aR⟩,q4,q5⟩
theorem Aq (hR:aD A D w) (s:Nat) (t:bB) (ht:D.ag.getD s none=some t) (hm:A.mt s=0) (e:Ev) (kk tt rr:Int) (hcs:lK e (.slice none 0 0)=[I kk,I tt,zu 0,I 0,I 0,I 0,I 0,I 0,I 0,.slice none 0 0,I 0,I rr]) (hp:e.res.aB=[]) (hn:D.aP.length<1000000):
 zk 125 #[R A.Y 0,R (A.bt s) 0,.agg #[I kk,I tt,zu 0,I 0,I 0,I 0,I 0,I 0,I 0,.slice none 0 0,I 0,I rr]] w (Told A w s (D.bW s e)):=by
 obtain⟨r3,g3,f0,f1,f2⟩:=iO hR #[R A.Y 0] 32 #[R (A.bt s) 0] 100 #[I kk,I tt,zu 0,I 0,I 0,I 0,I 0,I 0,I 0,.slice none 0 0,I 0,I rr] 62;have a1:=f1.cell 0 (v:=R (A.bt s) 0) rfl
 by_cases ho:t.over=true
 . have e0:D.bW s e=D:=by unfold St.bW;rw[bQ ht,aV ho]
   rw[e0];have OQ:=r3.dZ ht 10 (v:=.int .u32 1) (by simp[dS,iC,ho]);have HD:=U (fun fv=>DC (J (A.bt s) 10) fv _ OQ);have HR:=U (zA r3 g3);clear hR ht r3 g3 f0 f1 f2 hm hcs hp hn ho e0 OQ;go_enter Tryz.func125,Tryz.ntmps125;go_wp2_with (go_at_call 146;refine (HD.out _).mono ?_;rintro e' w2 ⟨rfl,rfl⟩)
   go_end0
   exact⟨rfl,A,HR.out.1,HR.out.2,bL.refl _ _,rfl,rfl⟩
 . have ho':t.over=false:=by simpa using ho
   have e0:D.bW s e=(D.bq s {t with over:=true}).event e:=by unfold St.bW;rw[bQ ht,aX ho]
   rw[e0];have OQ:=r3.dZ ht 10 (v:=.int .u32 0) (by simp[dS,iC,ho']);have S9:=r3.dZ ht 11 (v:=.int .i32 0) (by simp[dS,iC,hm]);have FH:=r3.tH ht 10;have Jp:=r3.tH ht 11;obtain⟨r4,g4⟩:=r3.Dt ht 1;have hf:=EJ r4 s t ht e kk tt rr hcs hp hn (w.heap.size+1) w.heap.size (w.heap.size+1+1) (f1.box.grow g4) (f0.box.grow g4) _ (f2.grow g4)
   have hd := zO (A.bt s) 10 147 #[.pointer (some ⟨w.heap.size + 1, 0, none⟩), R w.heap.size 0, .pointer (some ⟨w.heap.size + 1 + 1, 0, none⟩)] _ _ OQ S9 FH Jp (Cf _) hf (by
     rintro G ⟨A',q1,q2,q3,q4,q5⟩
     have ht':(D.event e).ag.getD s none=some t:=ht
     have b10:=q1.dZ ht' 10 (v:=.int .u32 0) (by simp[dS,iC,ho'])
     have b11:=q1.dZ ht' 11 (v:=.int .i32 1) (by simp[dS,iC,q3.mt])
     have IM:=q1.tH ht' 10
     have NG:=q1.tH ht' 11
     rw[q3.bt] at b10 b11 IM NG
     exact⟨b10,b11,IM,NG⟩)
   have HD:=U hd;have HR:=U (zA g3 g4);have HT:=U (zA ht hm);clear hR ht r3 g3 f0 f1 f2 hm hcs hp hn ho ho' e0 OQ S9 FH Jp r4 g4 hf hd;go_enter Tryz.func125,Tryz.ntmps125;go_wp2_with (go_at_call 146;refine HD.out.mono ?_;rintro e' w2 ⟨rfl,w3,⟨A',q1,q2,q3,q4,q5⟩,rfl⟩)
   go_end0
   have ht':(D.event e).ag.getD s none=some t:=HT.out.1;obtain⟨k1,g5⟩:=q1.drew.I7 ht';have ht2:((D.event e).bq s {t with over:=true}).ag.getD s none=some {t with over:=true}:=by rw[cO (cz ht'),aV rfl]
   obtain⟨k2,g6⟩:=k1.Dt ht2 0;have gg:=((((HR.out.1.trans HR.out.2).trans q2).trans (Grow.drew _ _)).trans g5).trans g6;have eb:A'.bt s=A.bt s:=by rw[q3.bt]
   rw[eb] at k2 gg;refine⟨rfl,_,k2,gg,⟨q3.bf,q3.ba,q3.bp,q3.bt,q3.bm,q3.bc,q3.aW,q3.bG,q3.gJ,q3.mp,?_,q3.bx,q3.aR⟩,q4,q5⟩;show (fun k=>if k=s then 0 else A'.mt k)=A.mt;rw[q3.mt]
   funext k
   show (if k=s then 0 else if k=s then 1 else A.mt k)=A.mt k
   by_cases V:k=s
   . rw[aV V,V,HT.out.2]
   . rw[aX V,aX V]
theorem yz (h:aD A D w) (i n:Nat) (z y:Int) (hz:z=(i:Int)) (hy:y=(n:Int)) (hi:i<D.words.length) (hc:D.count<4000000000000000000):
 zk 47 #[R A.ba 0,I z,zu y] w (FD A w (D.put i n) (.tuple #[])):=by subst hz hy;exact fC h i n hi hc
theorem mY (l:List wG):(ku l).length=l.length*3:=by
 induction l with
 |nil=>rfl
 |cons x l ih=>simp only[ku,List.flatMap_cons,jF,List.length_cons,List.length_nil] at ih ⊢;omega
theorem wT (hR:aD A D w) (s:Nat) (l:List wG) (lv:Value) (hl:dQ A.L w 3 lv (ku l)) (r:ic) (vp:Value) (hp:(vp=A.aR s∧r.aB=(D.c s).r.aB)∨(vp=.slice none 0 0∧r.aB=[])):
 zk 128 #[R A.Y 0,R (A.bt s) 0,R (A.bc s) 0,lv,.agg #[I r.e,I r.value,vp,I r.over,I r.ay]] w (aZ A w s (D,.turns l r)):=by
 have hl0:=hl;obtain⟨a,n,cap,rfl,hlen,hcap,hmax,hrow⟩:=hl;rw[mY] at hlen;have FA:=U (jY hR #[R A.Y 0] 32 #[R (A.bt s) 0] 100 #[R (A.bc s) 0] 105 #[.slice a n cap] 232 #[I r.e,I r.value,vp,I r.over,I r.ay] 46);have HL:=U (zA hl0 hp);clear hR hp hl0 hcap hmax hrow
 cases l with
 |nil=>
  obtain rfl:n=0:=by simp at hlen;omega
  clear hlen;go_enter Tryz.func128,Tryz.ntmps128;go_wp2_with fail;go_ret;obtain⟨r1,r2,f0,f1,f2,f3,f4⟩:=FA.out;exact⟨A,_,rfl,r1,r2,bL.refl _ _,_,_,_,_,rfl,f0.box,f1.box,f2.box,_,_,f4,HL.out.2⟩
 |cons x l=>
  have hn0:n≠0:=by simp at hlen;omega
  have d1:((n:Int)==0)=false:=by simp;omega
  have d2:((n:Int)=0)=False:=by simp;omega
  have d3:(n=0)=False:=by simp;omega
  clear hlen hn0;go_enter Tryz.func128,Tryz.ntmps128;go_wp2_with fail;go_ret;obtain⟨r1,r2,f0,f1,f2,f3,f4⟩:=FA.out;exact⟨A,_,rfl,r1,r2,bL.refl _ _,_,_,_,_,_,rfl,⟨_,f3.box,HL.out.1.grow r2⟩,f0.box,f1.box,f2.box,_,_,f4,HL.out.2⟩
theorem Gx (hR:aD A D w) (s:Nat) (t:bB) (ht:D.ag.getD s none=some t) (c:dF) (hc:D.calls.getD s none=some c) (r:ic) (hs:s<8) (aQ:D.count<4000000000000000000) (b0 b1 b2 b3:Nat)
 (B0:aK A.L w b0 (R A.Y 0)) (B1:aK A.L w b1 (R (A.bt s) 0)) (B2:aK A.L w b2 (R (A.bc s) 0)) (B3:kG (kp A D s) A.L w b3 r):
 zk 149 #[R b0 0,R b1 0,R b2 0,R b3 0] w (jO A w s (D.run s (.turns [] r))):=by
 obtain⟨vp,TR,FR,hp⟩:=B3;have hps:(kp A D s).ps=c.r.aB:=by show (D.c s).r.aB=_;rw[aU hc]
 rw[hps] at hp;have hform:∃ a n cap,vp=.slice a n cap:=by
  rcases hp with ⟨h1,_⟩|⟨h1,_⟩
  . have aS:=hR.mem.all (.aB s)
    rw[gL hc] at aS;obtain⟨a,cap,h2,_⟩:=Ow.bD aS.1;exact⟨a,_,cap,h1.trans h2⟩
  . exact⟨none,0,0,h1⟩
 obtain⟨va,vn,vc,hvp⟩:=hform;have c0:=B0.cell;have c1:=B1.cell;have c2:=B2.cell;have e2:=hR.z2;have t2:w.cell? (J (A.bt s) 2)=zt s:=hR.dZ ht 2 rfl;have n1:IntKind.i64.wrap (1+(s:Int))=1+(s:Int):=by rw[jH];omega
 have HL:=U (yz hR.drew (1+s) 0 (1+(s:Int)) 0 (by omega) rfl (by rw[hR.nw];omega) aQ);have HG:=zG A.L w;have HK:Hid (∀ G,aD A D G->Grow A.L w A.L G->zS G b0 0 A.Y 0∧zS G A.Y 2 A.ba 0∧zS G b1 0 (A.bt s) 0∧zT G (A.bt s) 2 s):=fun G r g=>⟨(B0.grow g).cell,r.eH 2 rfl,(B1.grow g).cell,r.dZ ht 2 rfl⟩
 have HB:Hid (∀ H,aD A (D.put (1+s) 0) H->Grow A.L w A.L H->zk 141 #[R A.Y 0,R (A.bc s) 0,.agg #[I r.e,I r.value,vp,I r.over,I r.ay]] H (jO A H s ((D.put (1+s) 0).finish s r,none))∧zS H b0 0 A.Y 0∧zS H b2 0 (A.bc s) 0∧zT H b3 0 r.e∧zT H b3 1 r.value∧H.cell? (J b3 2)=some vp∧zT H b3 3 r.over∧zT H b3 4 r.ay):=by
  intro H q g;have fr:=FR.grow g;exact⟨uk q s c hc r va vn vc vp hvp hp,(B0.grow g).cell,(B2.grow g).cell,fr.cell 0 rfl,fr.cell 1 rfl,fr.cell 2 rfl,fr.cell 3 rfl,fr.cell 4 rfl⟩
 have aN:D.run s (.turns [] r)=((D.put (1+s) 0).finish s r,none):=rfl;rw[aN];clear hR ht hc hs aQ B0 B1 B2 FR hp hps aN;subst hvp;go_enter Tryz.func149,Tryz.ntmps149;go_wp2_with fail;refine wp_region_still_tail 9 (by kernel_rfl) (by kernel_rfl) ?_;simp only[jk,jl,jm,jo]
 repeat still_step
 refine wpStill_nil ?_;change wpList _ _ _ _ _ w.drew;generalize w.drew=wd at*;go_wp2_with (first|(go_at_call 47;refine HL.out.mono ?_;rintro e H ⟨rfl,q1,q2⟩;have g1:=HG.out.trans q2;obtain⟨hf,d0,d2,k0,k1,k2,k3,k4⟩:=HB.out H q1 g1;have HQ:=U (zA hf g1);clear q1 q2 g1 hf)|(go_at_call 141;refine HQ.out.1.mono ?_;rintro e w2 ⟨A2,v,rfl,p1,p2,p3,rfl⟩))
 trace_state
 go_ret;exact⟨A2,_,rfl,p1,HQ.out.2.trans p2,p3,rfl⟩
theorem Gy (hR:aD A D w) (s:Nat) (c:dF) (hc:D.calls.getD s none=some c) (x:wG) (l:List wG) (r:ic) (hx:x.at_<D.words.length) (aQ:D.count<4000000000000000000) (b0 b1 b2 b3 b4:Nat)
 (B0:lS A.L w b0 (x::l)) (B1:aK A.L w b1 (R A.Y 0)) (B2:aK A.L w b2 (R (A.bt s) 0)) (B3:aK A.L w b3 (R (A.bc s) 0)) (B4:kG (kp A D s) A.L w b4 r):
 zk 150 #[R b0 0,R b1 0,R b2 0,R b3 0,R b4 0] w (jO A w s (D.run s (.turns (x::l) r))):=by
 obtain⟨vp,TR,FR,hp⟩:=B4;have hps:(kp A D s).ps=c.r.aB:=by show (D.c s).r.aB=_;rw[aU hc]
 rw[hps] at hp;have hform:∃ a n cap,vp=.slice a n cap:=by
  rcases hp with ⟨h1,_⟩|⟨h1,_⟩
  . have aS:=hR.mem.all (.aB s)
    rw[gL hc] at aS;obtain⟨a,cap,h2,_⟩:=Ow.bD aS.1;exact⟨a,_,cap,h1.trans h2⟩
  . exact⟨none,0,0,h1⟩
 obtain⟨va,vn,vc,hvp⟩:=hform;obtain⟨lv,X0,R0⟩:=B0;obtain⟨a,n,cap,rfl,hlen,hcap,hmax,hrow⟩:=R0;rw[mY] at hlen;obtain rfl:n=l.length+1:=by simp at hlen;omega
 obtain⟨g,off,rfl,Qs,JH,hcs⟩:=hrow.resolve_left (by omega);have c0:=X0.cell;have c1:=B1.cell;have c2:=B2.cell;have c3:=B3.cell;have e2:=hR.z2;have l0:w.cell? (J g off)=zt x.at_:=hcs 0 (by omega);have l1:w.cell? (J g (off+1))=zv x.old:=hcs 1 (by omega);have l2:w.cell? (J g (off+2))=zv x.new:=hcs 2 (by omega);obtain⟨r1,g1,f0⟩:=cB hR #[I x.at_,zu x.old,zu x.new] 234;have y0:=f0.cell 0 (v:=I x.at_) rfl;have y1:=f0.cell 1 (v:=zu x.old) rfl;have y2:=f0.cell 2 (v:=zu x.new) rfl;have z1:=(B1.grow g1).cell;have ze:=r1.eH 2 (v:=R A.ba 0) rfl;obtain⟨a',ha'⟩:∃ a',a'=if cap=1 then (some ((J g off):Addr)) else some (J g (off+3)):=⟨_,rfl⟩
 have hsl:∀ G,(Instr.slice 232 (.slice (some (J g off)) (l.length+1) cap) (some (I 1)) none none).run Tryz.prog G=.ok (.slice a' l.length (cap - 1)) G:=by
  intro G;have he:Tryz.prog.elem 232=234:=by kernel_rfl
  have hz:(sizeOf 234).run Tryz.prog G=.ok 3 G:=by kernel_rfl
  rw[run_slice_l (P:=Tryz.prog) G 232 (some (J g off)) (l.length+1) cap (by kernel_rfl) .i64 1 (by decide) (by omega),he,hz,ha']
  by_cases h1:cap=1
  . simp[Result.andThen,sliced,h1]
  . simp[Result.andThen,sliced,h1,Addr.add]
 have HB : Hid (∀ bE w2, aD A bE w2 -> bE.calls = D.calls -> Grow A.L w A.L w2 -> w2.cell? (J b0 0) = some (.slice (some (J g off)) (l.length + 1) cap) ∧ zS w2 b1 0 A.Y 0 ∧ zS w2 b2 0 (A.bt s) 0 ∧ zS w2 b3 0 (A.bc s) 0 ∧ zT w2 b4 0 (r.e : Int) ∧ zT w2 b4 1 (r.value : Int) ∧ w2.cell? (J b4 2) = some vp ∧ zT w2 b4 3 (r.over : Int) ∧ zT w2 b4 4 (r.ay : Int) ∧
     zk 128 #[R A.Y 0,R (A.bt s) 0,R (A.bc s) 0,.slice a' l.length (cap - 1),.agg #[I r.e,I r.value,vp,I r.over,I r.ay]] w2.drew (aZ A w2.drew s (bE,.turns l r))):=by
  intro bE w2 q hcl gr;have fr:=FR.grow gr;have hrow':dQ A.L w2.drew 3 (.slice a' l.length (cap - 1)) (ku l):=by
   refine⟨_,_,_,rfl,mY l,by omega,by omega,?_⟩
   by_cases hc1:cap=1
   . exact .inl (by omega)
   refine .inr ⟨g,off+3,by rw[ha',aX hc1],Qs,qW JH gr.size,fun j hj=>?_⟩;rw[World.cell?_drew,World.cell?_of_block (w:=w) (a:=(J g (off+3+j))) (gr.block g JH Qs),show off+3+j=off+(3+j) by omega,hcs (3+j) (by omega)];simp[ku,Nat.add_comm 3 j]
  have hp':(vp=A.aR s∧r.aB=(bE.c s).r.aB)∨(vp=.slice none 0 0∧r.aB=[]):=by
   have e:bE.c s=c:=by unfold St.c;rw[hcl,hc];rfl
   rw[e];exact hp
  exact⟨(X0.grow gr).cell,(B1.grow gr).cell,(B2.grow gr).cell,(B3.grow gr).cell,fr.cell 0 rfl,fr.cell 1 rfl,fr.cell 2 rfl,fr.cell 3 rfl,fr.cell 4 rfl,wT q.drew s l _ hrow' r vp hp'⟩
 clear ha';have HG:=U (g1.trans (Grow.drew A.L (w.alloc (.cells #[I x.at_,zu x.old,zu x.new] 234))));have nl:¬ ((l.length:Int)+1<=0):=by omega
 have VE:(0:Int)<(l.length:Int)+1:=by omega
 by_cases ho:x.old=0
 . have HL:=U (fC r1.drew x.at_ x.new hx aQ)
   have aN:D.run s (.turns (x::l) r)=(D.put x.at_ x.new,some (.turns l r)):=by simp only[St.run,aV ho]
   rw[aN];have HB1:=U (fun w2 q gr=>HB.out (D.put x.at_ x.new) w2 q rfl gr);have d1:((x.old:Int)==0)=true:=by simpa using ho
   have d2:((x.old:Int)=0)=True:=by simpa using ho
   clear hR r1 g1 f0 hc hx aQ X0 B1 B2 B3 FR hp hps aN HB ho hlen hcap hmax hrow hcs c1 c2 c3 e2;generalize x.at_=xa at*;generalize x.old=xo at*;generalize x.new=xn at*;subst hvp;go_enter Tryz.func150,Tryz.ntmps150;go_wp2_with fail;generalize w.alloc _=H at*;refine wp_region_still_tail 8 (by kernel_rfl) (by kernel_rfl) ?_;simp only[jk,jl,jm,jo]
   repeat still_step
   refine wpStill_nil ?_;change wpList _ _ _ _ _ H.drew;generalize H.drew=wd at*;go_wp2_with (go_at_call 47;refine HL.out.mono ?_;rintro e w2 ⟨rfl,q1,q2⟩;have gr:=HG.out.trans q2;obtain⟨d0,d1,d2,d3,k0,k1,k2,k3,k4,hf⟩:=HB1.out w2 q1 gr;have HQ:=U (zA hf (gr.trans (Grow.drew _ _)));clear q1 q2 gr hf);refine wp_region_still_tail 6 (by kernel_rfl) (by kernel_rfl) ?_;simp only[jk,jl,jm,jo]
   repeat still_step
   refine wpStill_nil ?_;change wpList _ _ _ _ _ w2.drew;generalize w2.drew=wd2 at*;go_wp2_with (go_at_call 128;refine HQ.out.1.mono ?_;rintro e w3 ⟨A2,v,rfl,p1,p2,p3,p4⟩);go_ret;exact⟨A2,v,rfl,p1,HQ.out.2.trans p2,p3,p4⟩
 . have HL:=U (oN r1.drew x.at_ x.old x.new hx aQ)
   have aN:D.run s (.turns (x::l) r)=(D.bP x.at_ x.old x.new,some (.turns l r)):=by simp only[St.run,aX ho]
   rw[aN];have HB1:=U (fun w2 q gr=>HB.out (D.bP x.at_ x.old x.new) w2 q (by unfold St.bP;split<;>rfl) gr);have d1:((x.old:Int)==0)=false:=by simpa using ho
   have d2:((x.old:Int)=0)=False:=by simpa using ho
   clear hR r1 g1 f0 hc hx aQ X0 B1 B2 B3 FR hp hps aN HB ho hlen hcap hmax hrow hcs c1 c2 c3 e2;generalize x.at_=xa at*;generalize x.old=xo at*;generalize x.new=xn at*;subst hvp;go_enter Tryz.func150,Tryz.ntmps150;go_wp2_with fail;generalize w.alloc _=H at*;refine wp_region_still_tail 10 (by kernel_rfl) (by kernel_rfl) ?_;simp only[jk,jl,jm,jo]
   repeat still_step
   refine wpStill_nil ?_;change wpList _ _ _ _ _ H.drew;generalize H.drew=wd at*;go_wp2_with (go_at_call 45;refine HL.out.mono ?_;rintro e w2 ⟨rfl,q1,q2⟩;have gr:=HG.out.trans q2;obtain⟨d0,d1,d2,d3,k0,k1,k2,k3,k4,hf⟩:=HB1.out w2 q1 gr;have HQ:=U (zA hf (gr.trans (Grow.drew _ _)));clear q1 q2 gr hf);refine wp_region_still_tail 6 (by kernel_rfl) (by kernel_rfl) ?_;simp only[jk,jl,jm,jo]
   repeat still_step
   refine wpStill_nil ?_;change wpList _ _ _ _ _ w2.drew;generalize w2.drew=wd2 at*;go_wp2_with (go_at_call 128;refine HQ.out.1.mono ?_;rintro e w3 ⟨A2,v,rfl,p1,p2,p3,p4⟩);go_ret;exact⟨A2,v,rfl,p1,HQ.out.2.trans p2,p3,p4⟩
end Go.Proofs.YthicolbbmjfkfaaGreat.Em
