import Derived.Test.YthicolbbmjfkfaaGreatQf9
set_option linter.unusedVariables false
set_option linter.unusedSimpArgs false
set_option maxRecDepth 100000
set_option maxHeartbeats 1600000
namespace Go.Proofs.YthicolbbmjfkfaaGreat.Em
open Go.ChangeShapes Go.WideShapes Go.ChangeAt Go.RowKit En
variable {A:az} {D:St} {w:World}
theorem Oa (hR:aF A D w) (s:Nat) (x now:Nat) (hx:x<18446744073709551616) (hi:aZ x<=2000) (aN:D.count<4000000000000000000) (b0 b1 b2:Nat)
 (B0:aP A.L w b0 (R A.V 0)) (B1:aP A.L w b1 (zu x)) (B2:nL (kp A D s) A.L w b2 x now):
 zk 123 #[R b0 0,R b1 0,R b2 0] w (lF A w s (D.run s (.eX x now))):=by
 have c0:=B0.cell;have c1:=B1.cell;have HH:=U (vT hR x hx hi aN);obtain⟨tv,X2,m0,m1,m2,m3,m4,JJ,N0,N1,N2,N3,N4⟩:=B2;have HB:Hid (∀ H,Grow A.L w A.L H->H.cell? (J b2 0)=some tv):=fun H g=>(X2.grow g).cell
 have HN:=U (zA N0 (zA N1 (zA N2 (zA N3 N4))));have aU:D.run s (.eX x now)=(D.dw x,some (.turn x now)):=rfl;rw[aU];clear hR hx hi aN B0 B1 X2 N0 N1 N2 N3 N4 aU;subst JJ;go_enter Tryz.func123,Tryz.ntmps123;go_wp2_with (go_at_call 44;refine HH.out.mono ?_;rintro e H ⟨rfl,q1,q2⟩;have d2:=HB.out H q2;have HQ:=U (zA q1 q2);clear q1 q2);go_ret;obtain⟨q1,q2⟩:=HQ.out;obtain⟨N0,N1,N2,N3,N4⟩:=HN.out;exact⟨A,_,rfl,q1,q2,bU.refl _ _,_,_,_,_,_,rfl,N0.grow q2,N1.grow q2,N2.grow q2,N3.grow q2,N4.grow q2⟩
theorem Di (hR:aF A D w) (s:Nat) (hx:D.word 0<18446744073709551616) (aN:D.count<4000000000000000000) (b0 b1 b2:Nat)
 (B0:aP A.L w b0 (R A.V 0)) (B1:aP A.L w b1 (R (A.bt s) 0)) (B2:aP A.L w b2 (R (A.bc s) 0)) (ho:D.limit<=aj (D.word 0)):
 zk 119 #[R b0 0,R b1 0,R b2 0] w (lF A w s (D.run s .draw)):=by
 have c0:=B0.cell;have e2:=hR.z2;have HL:=U (iP hR 0 0 rfl (by rw[hR.nw];omega) aN);have HD:=U (fun E=>jI (D.word 0) hx E);have HB:Hid (∀ H,aF A D.tick H->Grow A.L w A.L H->∀ W3,(H.alloc (.cells #[zu (D.word 0:Int)] 25)).alloc (.cells #[zu (aj (D.word 0):Int)] 25)=W3->∀ n w5,W3.drewN n=w5->aF A D.tick w5∧Grow A.L w A.L w5∧Fix A.L w5 H.heap.size (.cells #[zu (D.word 0:Int)] 25)∧Fix A.L w5 (H.heap.size+1) (.cells #[zu (aj (D.word 0):Int)] 25)∧zS w5 b0 0 A.V 0∧zS w5 b1 0 (A.bt s) 0∧zS w5 b2 0 (A.bc s) 0∧zV w5 A.V 1 (D.limit:Int)∧zV W3 H.heap.size 0 (D.word 0:Int)∧W3.cell? ⟨H.heap.size+1,0,none⟩=zv (aj (D.word 0):Int)∧zS W3 b0 0 A.V 0∧zV W3 A.V 1 (D.limit:Int)):=by
  rintro H q1 q2 W3 rfl n w5 rfl;obtain⟨r3,g3,f0,f1⟩:=jJ q1 #[zu (D.word 0:Int)] 25 #[zu (aj (D.word 0):Int)] 25;have gd:=Grow.drewN A.L ((H.alloc (.cells #[zu (D.word 0:Int)] 25)).alloc (.cells #[zu (aj (D.word 0):Int)] 25)) n;have gg:=(q2.trans g3).trans gd;exact⟨r3.drewN n,gg,f0.grow gd,f1.grow gd,(B0.grow gg).cell,(B1.grow gg).cell,(B2.grow gg).cell,(r3.drewN n).bT 1 rfl,f0.cell 0 rfl,f1.cell 0 rfl,(B0.grow (q2.trans g3)).cell,r3.bT 1 rfl⟩
 have HX:=U (zA B0 (zA B1 B2));have aU:D.run s .draw=(D.tick,some (.abort 14 6)):=by simp only[St.run];exact aW ho
 rw[aU];clear hR hx aN B0 B1 B2 aU;generalize D.word 0=x at*;generalize aj x=now at*;generalize aZ x=last at*;generalize D.limit=lim at*;have d1:decide ((lim:Int)<=(now:Int))=true:=by simpa using ho
 have d2:((lim:Int)<=(now:Int))=True:=by simpa using ho
 have d3:(lim<=now)=True:=by simpa using ho
 clear ho;go_enter Tryz.func119,Tryz.ntmps119;go_wp2_with (first|(go_at_call 42;refine HL.out.mono ?_;rintro e H ⟨rfl,q1,q2⟩;obtain⟨_,_,_,_,_,_,_,_,y1,y2,y3,y4⟩:=HB.out H q1 q2 _ rfl 0 _ rfl;have HQ:=U (zA q1 q2);clear q1 q2)|(go_at_call 43;refine (HD.out _).mono ?_;rintro e E ⟨rfl,rfl⟩));generalize hw3:(H.alloc _).alloc _=w3 at*
 go_quiet (fail)
 generalize jg:w3.drewN _=w5;obtain⟨r5,g5,f0,f1,z0,z1,z2,z3,_⟩:=HB.out H HQ.out.1 HQ.out.2 w3 hw3 _ w5 jg;clear y1 y2 y3 y4 hw3 jg;have ha:zk 97 #[R A.V 0,R (A.bt s) 0,R (A.bc s) 0,I 14,I 6] w5 (bG A w5 s (D.tick,.abort 14 6)):=jM r5 s 14 6;have HA:=U (zA ha g5);clear r5 g5 f0 f1 ha;go_wp2_with (go_at_call 97;refine HA.out.1.mono ?_;rintro e w2 ⟨A2,v,rfl,p1,p2,p3,p4⟩);go_ret;exact⟨A2,v,rfl,p1,HA.out.2.trans p2,p3,p4⟩
theorem Dj (hR:aF A D w) (s:Nat) (hx:D.word 0<18446744073709551616) (aN:D.count<4000000000000000000) (b0 b1 b2:Nat)
 (B0:aP A.L w b0 (R A.V 0)) (B1:aP A.L w b1 (R (A.bt s) 0)) (B2:aP A.L w b2 (R (A.bc s) 0)) (ho:¬ D.limit<=aj (D.word 0)) (hl:aZ (D.word 0)=0):
 zk 119 #[R b0 0,R b1 0,R b2 0] w (lF A w s (D.run s .draw)):=by
 have c0:=B0.cell;have e2:=hR.z2;have HL:=U (iP hR 0 0 rfl (by rw[hR.nw];omega) aN);have HD:=U (fun E=>jI (D.word 0) hx E);have HB:Hid (∀ H,aF A D.tick H->Grow A.L w A.L H->∀ W3,(H.alloc (.cells #[zu (D.word 0:Int)] 25)).alloc (.cells #[zu (aj (D.word 0):Int)] 25)=W3->∀ n w5,W3.drewN n=w5->aF A D.tick w5∧Grow A.L w A.L w5∧Fix A.L w5 H.heap.size (.cells #[zu (D.word 0:Int)] 25)∧Fix A.L w5 (H.heap.size+1) (.cells #[zu (aj (D.word 0):Int)] 25)∧zS w5 b0 0 A.V 0∧zS w5 b1 0 (A.bt s) 0∧zS w5 b2 0 (A.bc s) 0∧zV w5 A.V 1 (D.limit:Int)∧zV W3 H.heap.size 0 (D.word 0:Int)∧W3.cell? ⟨H.heap.size+1,0,none⟩=zv (aj (D.word 0):Int)∧zS W3 b0 0 A.V 0∧zV W3 A.V 1 (D.limit:Int)):=by
  rintro H q1 q2 W3 rfl n w5 rfl;obtain⟨r3,g3,f0,f1⟩:=jJ q1 #[zu (D.word 0:Int)] 25 #[zu (aj (D.word 0):Int)] 25;have gd:=Grow.drewN A.L ((H.alloc (.cells #[zu (D.word 0:Int)] 25)).alloc (.cells #[zu (aj (D.word 0):Int)] 25)) n;have gg:=(q2.trans g3).trans gd;exact⟨r3.drewN n,gg,f0.grow gd,f1.grow gd,(B0.grow gg).cell,(B1.grow gg).cell,(B2.grow gg).cell,(r3.drewN n).bT 1 rfl,f0.cell 0 rfl,f1.cell 0 rfl,(B0.grow (q2.trans g3)).cell,r3.bT 1 rfl⟩
 have HX:=U (zA B0 (zA B1 B2));have aU:D.run s .draw=(D.tick,some (.turn (D.word 0) (aj (D.word 0)))):=by simp only[St.run];rw[bu (show ¬ D.tick.limit<=_ from ho),aW hl]
 rw[aU];clear hR hx aN B0 B1 B2 aU;generalize D.word 0=x at*;generalize aj x=now at*;generalize aZ x=last at*;generalize D.limit=lim at*;have d1:decide ((lim:Int)<=(now:Int))=false:=by simpa using ho
 have d2:((lim:Int)<=(now:Int))=False:=by simpa using ho
 have d3:(lim<=now)=False:=by simpa using ho
 have l1:((last:Int)==0)=true:=by simpa using hl
 have l2:((last:Int)=0)=True:=by simpa using hl
 clear ho hl;go_enter Tryz.func119,Tryz.ntmps119;go_wp2_with (first|(go_at_call 42;refine HL.out.mono ?_;rintro e H ⟨rfl,q1,q2⟩;obtain⟨_,_,_,_,_,_,_,_,y1,y2,y3,y4⟩:=HB.out H q1 q2 _ rfl 0 _ rfl;have HQ:=U (zA q1 q2);clear q1 q2)|(go_at_call 43;refine (HD.out _).mono ?_;rintro e E ⟨rfl,rfl⟩));generalize hw3:(H.alloc _).alloc _=w3 at*
 go_quiet (fail)
 generalize jg:w3.drewN _=w5;obtain⟨r5,g5,f0,f1,z0,z1,z2,z3,_⟩:=HB.out H HQ.out.1 HQ.out.2 w3 hw3 _ w5 jg;clear y1 y2 y3 y4 hw3 jg;obtain⟨r6,g6,f2⟩:=dz r5 #[.func (.func 120) #[] #[R b0 0,R H.heap.size 0,.pointer (some ⟨H.heap.size+1,0,none⟩),R b1 0,R b2 0]] 138;have u7:=f2.cell 0 (v:=.func (.func 120) #[] #[R b0 0,R H.heap.size 0,.pointer (some ⟨H.heap.size+1,0,none⟩),R b1 0,R b2 0]) rfl;have HZ:=U (zA r6 (zA (g5.trans g6) (zA (f0.grow g6) (zA (f1.grow g6) f2))));clear r5 g5 f0 f1 r6 g6 f2;go_wp2_with fail;go_ret;obtain⟨r6,g6,f0,f1,f2⟩:=HZ.out;obtain⟨B0,B1,B2⟩:=HX.out;exact⟨A,_,rfl,r6,g6,bU.refl _ _,_,_,_,_,_,rfl,B0.grow g6,f0.box,f1.box,B1.grow g6,B2.grow g6⟩
theorem Dk (hR:aF A D w) (s:Nat) (hx:D.word 0<18446744073709551616) (aN:D.count<4000000000000000000) (b0 b1 b2:Nat)
 (B0:aP A.L w b0 (R A.V 0)) (B1:aP A.L w b1 (R (A.bt s) 0)) (B2:aP A.L w b2 (R (A.bc s) 0)) (ho:¬ D.limit<=aj (D.word 0)) (hl:aZ (D.word 0)≠0):
 zk 119 #[R b0 0,R b1 0,R b2 0] w (lF A w s (D.run s .draw)):=by
 have c0:=B0.cell;have e2:=hR.z2;have HL:=U (iP hR 0 0 rfl (by rw[hR.nw];omega) aN);have HD:=U (fun E=>jI (D.word 0) hx E);have HB:Hid (∀ H,aF A D.tick H->Grow A.L w A.L H->∀ W3,(H.alloc (.cells #[zu (D.word 0:Int)] 25)).alloc (.cells #[zu (aj (D.word 0):Int)] 25)=W3->∀ n w5,W3.drewN n=w5->aF A D.tick w5∧Grow A.L w A.L w5∧Fix A.L w5 H.heap.size (.cells #[zu (D.word 0:Int)] 25)∧Fix A.L w5 (H.heap.size+1) (.cells #[zu (aj (D.word 0):Int)] 25)∧zS w5 b0 0 A.V 0∧zS w5 b1 0 (A.bt s) 0∧zS w5 b2 0 (A.bc s) 0∧zV w5 A.V 1 (D.limit:Int)∧zV W3 H.heap.size 0 (D.word 0:Int)∧W3.cell? ⟨H.heap.size+1,0,none⟩=zv (aj (D.word 0):Int)∧zS W3 b0 0 A.V 0∧zV W3 A.V 1 (D.limit:Int)):=by
  rintro H q1 q2 W3 rfl n w5 rfl;obtain⟨r3,g3,f0,f1⟩:=jJ q1 #[zu (D.word 0:Int)] 25 #[zu (aj (D.word 0):Int)] 25;have gd:=Grow.drewN A.L ((H.alloc (.cells #[zu (D.word 0:Int)] 25)).alloc (.cells #[zu (aj (D.word 0):Int)] 25)) n;have gg:=(q2.trans g3).trans gd;exact⟨r3.drewN n,gg,f0.grow gd,f1.grow gd,(B0.grow gg).cell,(B1.grow gg).cell,(B2.grow gg).cell,(r3.drewN n).bT 1 rfl,f0.cell 0 rfl,f1.cell 0 rfl,(B0.grow (q2.trans g3)).cell,r3.bT 1 rfl⟩
 have HX:=U (zA B0 (zA B1 B2));have aU:D.run s .draw=(D.tick,some (.eX (D.word 0) (aj (D.word 0)))):=by simp only[St.run];rw[bu (show ¬ D.tick.limit<=_ from ho),bu hl]
 rw[aU];clear hR hx aN B0 B1 B2 aU;generalize D.word 0=x at*;generalize aj x=now at*;generalize aZ x=last at*;generalize D.limit=lim at*;have d1:decide ((lim:Int)<=(now:Int))=false:=by simpa using ho
 have d2:((lim:Int)<=(now:Int))=False:=by simpa using ho
 have d3:(lim<=now)=False:=by simpa using ho
 have l1:((last:Int)==0)=false:=by simpa using hl
 have l2:((last:Int)=0)=False:=by simpa using hl
 clear ho hl;go_enter Tryz.func119,Tryz.ntmps119;go_wp2_with (first|(go_at_call 42;refine HL.out.mono ?_;rintro e H ⟨rfl,q1,q2⟩;obtain⟨_,_,_,_,_,_,_,_,y1,y2,y3,y4⟩:=HB.out H q1 q2 _ rfl 0 _ rfl;have HQ:=U (zA q1 q2);clear q1 q2)|(go_at_call 43;refine (HD.out _).mono ?_;rintro e E ⟨rfl,rfl⟩));generalize hw3:(H.alloc _).alloc _=w3 at*
 go_quiet (fail)
 generalize jg:w3.drewN _=w5;obtain⟨r5,g5,f0,f1,z0,z1,z2,z3,_⟩:=HB.out H HQ.out.1 HQ.out.2 w3 hw3 _ w5 jg;clear y1 y2 y3 y4 hw3 jg;obtain⟨r6,g6,f2⟩:=dz r5 #[.func (.func 120) #[] #[R b0 0,R H.heap.size 0,.pointer (some ⟨H.heap.size+1,0,none⟩),R b1 0,R b2 0]] 138;have u7:=f2.cell 0 (v:=.func (.func 120) #[] #[R b0 0,R H.heap.size 0,.pointer (some ⟨H.heap.size+1,0,none⟩),R b1 0,R b2 0]) rfl;have HZ:=U (zA r6 (zA (g5.trans g6) (zA (f0.grow g6) (zA (f1.grow g6) f2))));clear r5 g5 f0 f1 r6 g6 f2;go_wp2_with fail;go_ret;obtain⟨r6,g6,f0,f1,f2⟩:=HZ.out;obtain⟨B0,B1,B2⟩:=HX.out;exact⟨A,_,rfl,r6,g6,bU.refl _ _,_,_,_,rfl,B0.grow g6,f0.box,_,f2.box,_,_,_,_,_,rfl,B0.grow g6,f0.box,f1.box,B1.grow g6,B2.grow g6⟩
theorem QI (hR:aF A D w) (s:Nat) (hx:D.word 0<18446744073709551616) (aN:D.count<4000000000000000000) (b0 b1 b2:Nat)
 (B0:aP A.L w b0 (R A.V 0)) (B1:aP A.L w b1 (R (A.bt s) 0)) (B2:aP A.L w b2 (R (A.bc s) 0)):
 zk 119 #[R b0 0,R b1 0,R b2 0] w (lF A w s (D.run s .draw)):=by
 by_cases ho:D.limit<=aj (D.word 0)
 . exact Di hR s hx aN b0 b1 b2 B0 B1 B2 ho
 . by_cases hl:aZ (D.word 0)=0
   . exact Dj hR s hx aN b0 b1 b2 B0 B1 B2 ho hl
   . exact Dk hR s hx aN b0 b1 b2 B0 B1 B2 ho hl
theorem Dm (hR:aF A D w) (s:Nat) (t:bL) (ht:D.ai.getD s none=some t) (x now:Nat) (hn:now<281474976710655) (hid:t.id<65536) (htl:D.aQ.length<1000000) (aN:D.count<4000000000000000000) (b0 b1 b2 b3 b4:Nat)
 (B0:aP A.L w b0 (R A.V 0)) (B1:aP A.L w b1 (zu x)) (B2:aP A.L w b2 (zu now)) (B3:aP A.L w b3 (R (A.bt s) 0)) (B4:aP A.L w b4 (R (A.bc s) 0)) (hm:D.word 0≠x):
 zk 120 #[R b0 0,R b1 0,R b2 0,R b3 0,R b4 0] w (lF A w s (D.run s (.turn x now))):=by
 have c0:=B0.cell;have c1:=B1.cell;have c2:=B2.cell;have c3:=B3.cell;have e2:=hR.z2;have t0:w.cell? (J (A.bt s) 0)=zt t.id:=hR.fI ht 0 rfl;have n1:IntKind.u64.wrap ((now:Int)+1)=(now:Int)+1:=by rw[IntKind.wrap_u64];omega
 have Y:zk 46 #[zu ((now:Int)+1),I t.id] w.drew fun e E=>e=.returned (zu ((aV (now+1) t.id:Nat):Int))∧E=w.drew:=flip (oF (now+1) t.id (by omega) hid w.drew)
 have HC:=U Y;have HL:=U (uT hR.drew 0 x (aV (now+1) t.id) 0 rfl (by rw[hR.nw];omega) aN);have HG:=zG A.L w;have aU:D.run s (.turn x now)=(D.tick,some .draw):=by simp[St.run,St.cB,hm]
 rw[aU];have Z:(D.word 0==x)=false:=by simpa using hm
 have hcs:D.cB 0 x (aV (now+1) t.id)=D.tick:=bu hm;rw[Z,hcs] at HL;have HB:Hid (∀ H,aF A D.tick H->Grow A.L w A.L H->zk 96 #[R A.V 0,R (A.bt s) 0,R (A.bc s) 0] H (bG A H s (D.tick,.draw))∧zS H b0 0 A.V 0∧zS H b3 0 (A.bt s) 0∧zS H b4 0 (A.bc s) 0):=
  fun H q g=>⟨Cm q s,(B0.grow g).cell,(B3.grow g).cell,(B4.grow g).cell⟩
 clear hR ht hn hid htl aN B0 B1 B2 B3 B4 hm aU Z hcs Y;go_enter Tryz.func120,Tryz.ntmps120;go_wp2_with fail;refine wp_region_still_tail 12 (by kernel_rfl) (by kernel_rfl) ?_;simp only[jZ,j6,kg,kr]
 repeat still_step
 still_call HC.out
 refine wpStill_nil ?_;change wpList _ _ _ _ _ w.drew;generalize w.drew=wd at*;go_wp2_with (first|(go_at_call 45;refine HL.out.mono ?_;rintro e H ⟨rfl,q1,q2⟩;have g1:=HG.out.trans q2;obtain⟨hf,d0,d3,d4⟩:=HB.out H q1 g1;have HQ:=U (zA hf g1);clear q1 q2 g1 hf)|(go_at_call 96;refine HQ.out.1.mono ?_;rintro e w2 ⟨A2,v,rfl,p1,p2,p3,p4⟩));go_ret;exact⟨A2,v,rfl,p1,HQ.out.2.trans p2,p3,p4⟩
theorem Fg (hR:aF A D w) (s:Nat) (t:bL) (ht:D.ai.getD s none=some t) (x now:Nat) (hn:now<281474976710655) (hid:t.id<65536) (htl:D.aQ.length<1000000) (aN:D.count<4000000000000000000) (b0 b1 b2 b3 b4:Nat)
 (B0:aP A.L w b0 (R A.V 0)) (B1:aP A.L w b1 (zu x)) (B2:aP A.L w b2 (zu now)) (B3:aP A.L w b3 (R (A.bt s) 0)) (B4:aP A.L w b4 (R (A.bc s) 0)) (hm:D.word 0=x):
 zk 120 #[R b0 0,R b1 0,R b2 0,R b3 0,R b4 0] w (lF A w s (D.run s (.turn x now))):=by
 have c0:=B0.cell;have c1:=B1.cell;have c2:=B2.cell;have c3:=B3.cell;have e2:=hR.z2;have t0:w.cell? (J (A.bt s) 0)=zt t.id:=hR.fI ht 0 rfl;have n1:IntKind.u64.wrap ((now:Int)+1)=(now:Int)+1:=by rw[IntKind.wrap_u64];omega
 have Y:zk 46 #[zu ((now:Int)+1),I t.id] w.drew fun e E=>e=.returned (zu ((aV (now+1) t.id:Nat):Int))∧E=w.drew:=flip (oF (now+1) t.id (by omega) hid w.drew)
 have HC:=U Y;have HL:=U (uT hR.drew 0 x (aV (now+1) t.id) 0 rfl (by rw[hR.nw];omega) aN);have HG:=zG A.L w;have aU:D.run s (.turn x now)=(((D.put 0 (aV (now+1) t.id)).bM s {t with ay:=now+1}).event {kind:=3,t:=t.id,n:=now+1},some .eB):=by
  have e:∀ bF:St,bF.ai=D.ai->bF.t s=t:=fun bF h=>by unfold St.t;rw[h,ht];rfl
  simp[St.run,St.cB,hm,e _ (show (D.put 0 (aV (now+1) t.id)).ai=D.ai from rfl),e D rfl]
 rw[aU];have Z:(D.word 0==x)=true:=by simpa using hm
 have hcs:D.cB 0 x (aV (now+1) t.id)=D.put 0 (aV (now+1) t.id):=aW hm;rw[Z,hcs] at HL
 have HB : Hid (∀ H, aF A (D.put 0 (aV (now + 1) t.id)) H -> Grow A.L w A.L H -> zV H b2 0 (now : Int) ∧ zS H b3 0 (A.bt s) 0 ∧ zV H (A.bt s) 4 (t.ay : Int) ∧ H.frozen? (J (A.bt s) 4) = false ∧
     (∀ ws, H.setCell (J (A.bt s) 4) (zu ((now : Int) + 1)) = ws -> zS ws b0 0 A.V 0 ∧ zS ws b3 0 (A.bt s) 0 ∧ zT ws (A.bt s) 0 (t.id : Int) ∧ zV ws (A.bt s) 4 ((now : Int) + 1) ∧ Grow A.L w A.L ws ∧
       zk 50 #[R A.V 0,.agg #[I 3,I t.id,zu ((now:Int)+1),I 0,I 0,I 0,I 0,I 0,I 0,.slice none 0 0,I 0,I 0]] ws.drew (Does A ws.drew s (((D.put 0 (aV (now+1) t.id)).bM s {t with ay:=now+1}).event {kind:=3,t:=t.id,n:=now+1}) (.tuple #[])))):=by
  intro H q g;have ht1:(D.put 0 (aV (now+1) t.id)).ai.getD s none=some t:=ht;refine⟨(B2.grow g).cell,(B3.grow g).cell,q.fI ht1 4 rfl,q.vP ht1 4,?_⟩;rintro ws rfl;obtain⟨r2,g2⟩:=q.ED ht1 {t with ay:=now+1} 4 (zu ((now:Int)+1)) (by simp[fw]) rfl rfl rfl rfl;have ht2:((D.put 0 (aV (now+1) t.id)).bM s {t with ay:=now+1}).ai.getD s none=some {t with ay:=now+1}:=by rw[dB (dA ht1),aW rfl]
  have gg:=g.trans g2;exact⟨(B0.grow gg).cell,(B3.grow gg).cell,r2.fI ht2 0 rfl,r2.fI ht2 4 rfl,gg,mU r2.drew s _ 3 t.id (now+1) 0 0 0 0 0 0 0 0 none 0 0 rfl (lC.nil _ _) htl⟩
 have HX:=U (zA B0 (zA B3 B4));clear hR ht hn hid htl aN B0 B1 B2 B3 B4 hm aU Z hcs Y;go_enter Tryz.func120,Tryz.ntmps120;go_wp2_with fail;refine wp_region_still_tail 12 (by kernel_rfl) (by kernel_rfl) ?_;simp only[jZ,j6,kg,kr]
 repeat still_step
 still_call HC.out
 refine wpStill_nil ?_;change wpList _ _ _ _ _ w.drew;generalize w.drew=wd at*;go_wp2_with (go_at_call 45;refine HL.out.mono ?_;rintro e H ⟨rfl,q1,q2⟩;have g1:=HG.out.trans q2;obtain⟨d2,d3,d4,d5,hf⟩:=HB.out H q1 g1;have HQ:=U hf;clear q1 q2 g1 hf);generalize hws:World.setCell _ _ _=ws;obtain⟨a0,a3,a5,a4,gg,hf⟩:=HQ.out ws hws;have HE:=U (zA hf gg);clear d2 d3 d4 d5 hf gg hws HQ;refine wp_region_still_tail 10 (by kernel_rfl) (by kernel_rfl) ?_;simp only[jZ,j6,kg,kr]
 repeat still_step
 refine wpStill_nil ?_;change wpList _ _ _ _ _ ws.drew;have HG2:Hid (Grow A.L ws A.L ws.drew):=Grow.drew _ _;generalize ws.drew=wd2 at*;go_wp2_with (go_at_call 50;refine HE.out.1.mono ?_;rintro e w2 ⟨rfl,A2,p1,p2,p3,p4,p5⟩;have HR:=U (zA p1 (zA p2 (zA p3 (zA p4 p5))));clear p1 p2 p3 p4 p5);go_ret;obtain⟨p1,p2,p3,p4,p5⟩:=HR.out;obtain⟨B0,B3,B4⟩:=HX.out;have g3:=(HE.out.2.trans HG2.out).trans p2;refine⟨A2,_,rfl,p1,g3,p3,?_⟩;have ek:kp A2 (((D.put 0 (aV (now+1) t.id)).bM s {t with ay:=now+1}).event {kind:=3,t:=t.id,n:=now+1}) s=kp A D s:=Au p3 p4 p5 rfl rfl;show nY (kp A2 _ s) _ _ _ _;rw[ek];exact⟨_,_,_,rfl,B0.grow g3,B3.grow g3,B4.grow g3⟩
theorem QJ (hR:aF A D w) (s:Nat) (t:bL) (ht:D.ai.getD s none=some t) (x now:Nat) (hn:now<281474976710655) (hid:t.id<65536) (htl:D.aQ.length<1000000) (aN:D.count<4000000000000000000) (b0 b1 b2 b3 b4:Nat)
 (B0:aP A.L w b0 (R A.V 0)) (B1:aP A.L w b1 (zu x)) (B2:aP A.L w b2 (zu now)) (B3:aP A.L w b3 (R (A.bt s) 0)) (B4:aP A.L w b4 (R (A.bc s) 0)):
 zk 120 #[R b0 0,R b1 0,R b2 0,R b3 0,R b4 0] w (lF A w s (D.run s (.turn x now))):=by
 by_cases hm:D.word 0=x
 . exact Fg hR s t ht x now hn hid htl aN b0 b1 b2 b3 b4 B0 B1 B2 B3 B4 hm
 . exact Dm hR s t ht x now hn hid htl aN b0 b1 b2 b3 b4 B0 B1 B2 B3 B4 hm
theorem Dp (hR:aF A D w) (s:Nat) (hmp:A.mp=0) (bh:Nat) (hu:dR) (hh:dS (kp A D s) A.L w bh hu) (G mb:Nat) (HT:mb=0->wy D s hu G):
 zk 211 #[R bh 0,zu G,I mb] w (bG A w s (D.seen s hu G mb)):=by
 obtain⟨r1,g1,f0,f1,f2⟩:=jl hR #[R bh 0] 246 #[zu G] 25 #[I mb] 3;have c0:=f0.cell 0 (v:=R bh 0) rfl;have c1:=f1.cell 0 (v:=zu G) rfl;have c2:=f2.cell 0 (v:=I mb) rfl;have sJ:=hh.grow g1
 by_cases h0:mb=0
 . have e0:D.seen s hu G mb=D.thn s hu G:=by unfold St.seen;rw[aW h0]
   rw[e0];obtain⟨vt,TT,fh,hth⟩:=sJ;obtain⟨fv,cv,rfl,hent⟩:=hth.enter;obtain⟨fa1,fa2,fa3,fa4,fa5⟩:=rT (x:=mb) (c:=0) (ci:=0) (by omega);have h4:=fh.cell 4 (v:=.func (.func fv) #[] cv) rfl;have gd:=Grow.drew A.L (((w.alloc (.cells #[R bh 0] 246)).alloc (.cells #[zu G] 25)).alloc (.cells #[I mb] 3));have hf:=HT h0 A _ r1.drew hmp _ fv cv r1.drew (Grow.refl _ _) (hth.grow gd);have HF:=U (zA hf (g1.trans gd));clear hR hh r1 g1 f0 f1 f2 fh hth hf HT h0 e0 gd hmp;go_enter Tryz.func211,Tryz.ntmps211;go_wp2_with fail;generalize (((w.alloc _).alloc _).alloc _)=w3 at*;refine wp_region_still_tail 5 (by kernel_rfl) (by kernel_rfl) ?_;simp only[jZ,j6,kg,kr]
   repeat still_step
   refine wpStill_nil ?_;change wpList _ _ _ _ _ w3.drew;generalize w3.drew=wd at*;go_wp2_with fail;refine HF.out.1.mono ?_;rintro e w4 ⟨A',v,rfl,q1,q2,q3,q4⟩;go_wp2_with fail;go_ret;exact⟨A',v,rfl,q1,HF.out.2.trans q2,q3,q4⟩
 . have e0:D.seen s hu G mb=(D,.seen hu G mb):=by unfold St.seen;rw[bu h0]
   rw[e0];obtain⟨fa1,fa2,fa3,fa4,fa5⟩:=qE (x:=mb) (c:=0) (ci:=0) (by omega);have HQ:=U (zA r1 (zA g1 (zA f0 (zA f1 (zA f2 sJ)))));clear hR hh r1 g1 f0 f1 f2 sJ HT h0 e0 hmp;go_enter Tryz.func211,Tryz.ntmps211;go_wp2_with fail;go_ret;obtain⟨r1,g1,f0,f1,f2,sJ⟩:=HQ.out;exact⟨A,_,rfl,r1,g1,bU.refl _ _,_,_,_,rfl,⟨_,f0.box,sJ⟩,f2.box,f1.box⟩
theorem Ob (hR:aF A D w) (s:Nat) (hmp:A.mp=0) (t:bL) (ht:D.ai.getD s none=some t) (hu:dR) (G mb id b0 b1 b2 b3:Nat) (B0:ic (kp A D s) A.L w b0 hu) (B1:aP A.L w b1 (I id)) (B2:aP A.L w b2 (zu G)) (B3:aP A.L w b3 (I mb)) (hid:id<=65535) (hpl:D.place id<D.words.length) (hw:D.word (D.place id)<18446744073709551616) (hbn:t.aR.length<1000000) (htl:D.aQ.length<1000000) (aN:D.count<4000000000000000000) (HT:mb=0->wy D.tick s hu G):
 zk 225 #[R b0 0,R b1 0,R b2 0,R b3 0] w (lF A w s (D.run s (.ik hu G mb id))):=by
 obtain⟨bh,X0,hh0⟩:=B0;obtain⟨vt,TT,fh,hth⟩:=_root_.id hh0;have c0:=X0.cell;have c1:=B1.cell;have h0:w.cell? (J bh 0)=zs A.V 0:=fh.cell 0 rfl;have e2:=hR.z2;have HK:Hid (∀ E,Kp A w E->zS E b0 0 bh 0∧zT E b1 0 id∧zS E bh 0 A.V 0∧zS E A.V 2 A.ba 0):=by
  obtain⟨_,x0⟩:=X0;obtain⟨_,x1⟩:=B1;exact fun E k=>⟨k.fix _ _ _ x0.1 c0,k.fix _ _ _ x1.1 c1,k.fix _ _ _ fh.1 h0,k.ea⟩
 have HP:=U (eY hR.drew id hid);have HL:=U (iN hR.drew (D.place id) hpl aN);have HU:=U (fun E=>iX (D.word (D.place id)) hw E);have HG:=zG A.L w;have HB:Hid (∀ H,aF A D.tick H->Grow A.L w A.L H->zS H b0 0 bh 0∧zT H b1 0 id∧zV H b2 0 G∧zT H b3 0 mb∧zS H bh 0 A.V 0∧zS H bh 1 (A.bt s) 0∧zV H bh 3 hu.at_):=by
  intro H q g;exact⟨(X0.grow g).cell,(B1.grow g).cell,(B2.grow g).cell,(B3.grow g).cell,(fh.grow g).cell 0 rfl,(fh.grow g).cell 1 rfl,(fh.grow g).cell 3 rfl⟩
 have UJ:Hid (∀ A' bF H,Grow A.L w A'.L H->kp A' bF s=kp A D s->dS (kp A' bF s) A'.L H bh hu):=fun A' bF H g e=>by rw[e];exact hh0.grow g
 have Vt:Hid (∀ H,aF A D.tick H->zk 224 #[R A.V 0,R (A.bt s) 0,I id] H.drew (Does A H.drew s (D.tick.bind s id) (.tuple #[]))):=fun H q=>Da q.drew s t ht id hid hbn htl
 have hbc:(D.tick.bind s id).calls=D.calls:=by unfold St.bind;split<;>rfl
 have hcc:((D.tick.bind s id).c s)=D.c s:=by unfold St.c;rw[hbc]
 have MR:=U hcc;have RP:Hid (∀ (A':az) H,Grow A.L w A'.L H->zS H b0 0 bh 0∧zV H b2 0 G∧H.cell? (J bh 4)=some vt):=fun A' H g=>⟨(X0.grow g).cell,(B2.grow g).cell,(fh.grow g).cell 4 rfl⟩
 have aU:D.run s (.ik hu G mb id)=if il (D.word (D.place id))=0∨hu.at_<il (D.word (D.place id))∨bA (D.word (D.place id))=4 then ((D.tick.seen s hu G mb).1,some (D.tick.seen s hu G mb).2) else if bA (D.word (D.place id))=2 then (D.tick.bind s id,some (.older hu G)) else (D.tick,some (.older hu G)):=by
  simp only[St.run]
 rw[aU];have wJ:Hid (∀ H,aF A D.tick H->Grow A.L w A.L H->zk 211 #[R bh 0,zu G,I mb] H (bG A H s (D.tick.seen s hu G mb))):=fun H q g=>Dp q s hmp bh hu (show dS (kp A D.tick s) A.L H bh hu from hh0.grow g) G mb HT
 have CL:Hid (∀ A' bF H,aF A' bF H->dS (kp A' bF s) A'.L H bh hu->zk 201 #[R bh 0,zu G] H (bG A' H s (bF,.older hu G))):=fun A' bF H q Y=>mR q s bh hu Y G
 clear hR hid hpl hw aN X0 B1 B2 B3 fh hth hh0 aU hmp HT hbn htl hbc hcc ht;generalize D.word (D.place id)=x at*;generalize hst:bA x=st at*;generalize hen:il x=en at*;generalize hu.at_=ha at*;clear hst hen
 by_cases IB:en=0
 . rw[aW (Or.inl IB)]
   obtain⟨fa1,fa2,fa3,fa4,fa5⟩:=rT (x:=en) (c:=0) (ci:=0) (by omega);clear IB;go_enter Tryz.func225,Tryz.ntmps225;go_wp2_with fail
   go_region_held3 (fun E=>zS E b0 0 bh 0∧zT E b1 0 id∧zS E bh 0 A.V 0∧zS E A.V 2 A.ba 0)
    (first|exact⟨c0,c1,h0,e2⟩|assumption|exact HK.out _ (Kp.of (by assumption) (by assumption) (by assumption)))
    (first|(go_at_call 48;refine HP.out.mono ?_;rintro e E ⟨rfl,rfl⟩)|(go_at_call 42;refine HL.out.mono ?_;rintro e H ⟨rfl,q1,q2⟩;have q4:=HG.out.trans q2;have q3:=bU.refl A s;clear q2)|(go_at_call 109;refine (HU.out _).mono ?_;rintro e E ⟨rfl,rfl⟩))
   have HQ:=U (zA (‹aF A D.tick _›) (‹Grow A.L w A.L _›));obtain⟨d0,d1,d2,d3,d4,d5,d6⟩:=HB.out _ HQ.out.1 HQ.out.2;go_wp2_with (go_at_call 211;refine (wJ.out _ HQ.out.1 HQ.out.2).mono ?_;rintro e w2 ⟨A2,v,rfl,p1,p2,p3,p4⟩);go_ret;exact⟨A2,v,rfl,p1,HQ.out.2.trans p2,p3,p4⟩
 . have fa1:((en:Int)==0)=false:=by simp<;>omega
   have fa2:((en:Int)=0)=False:=by simp<;>omega
   have fa3:(en=0)=False:=by simp<;>omega
   have fa4:(en==0)=false:=by simp<;>omega
   have fa5:((en:Int) !=0)=true:=by simp<;>omega
   by_cases hlt:ha<en
   . rw[aW (Or.inr (Or.inl hlt))]
     obtain⟨Ki,Kj,Kk,Kl⟩:=UW (x:=ha) (c:=en) (xi:=(ha:Int)) (ci:=(en:Int)) (by omega);clear IB hlt;go_enter Tryz.func225,Tryz.ntmps225;go_wp2_with fail
     go_region_held3 (fun E=>zS E b0 0 bh 0∧zT E b1 0 id∧zS E bh 0 A.V 0∧zS E A.V 2 A.ba 0)
      (first|exact⟨c0,c1,h0,e2⟩|assumption|exact HK.out _ (Kp.of (by assumption) (by assumption) (by assumption)))
      (first|(go_at_call 48;refine HP.out.mono ?_;rintro e E ⟨rfl,rfl⟩)|(go_at_call 42;refine HL.out.mono ?_;rintro e H ⟨rfl,q1,q2⟩;have q4:=HG.out.trans q2;have q3:=bU.refl A s;clear q2)|(go_at_call 109;refine (HU.out _).mono ?_;rintro e E ⟨rfl,rfl⟩))
     have HQ:=U (zA (‹aF A D.tick _›) (‹Grow A.L w A.L _›));obtain⟨d0,d1,d2,d3,d4,d5,d6⟩:=HB.out _ HQ.out.1 HQ.out.2;go_wp2_with (go_at_call 211;refine (wJ.out _ HQ.out.1 HQ.out.2).mono ?_;rintro e w2 ⟨A2,v,rfl,p1,p2,p3,p4⟩);go_ret;exact⟨A2,v,rfl,p1,HQ.out.2.trans p2,p3,p4⟩
   . have Ki:decide ((ha:Int)<(en:Int))=false:=by simp<;>omega
     have Kj:((ha:Int)<(en:Int))=False:=by simp<;>omega
     have Kk:(ha<en)=False:=by simp<;>omega
     have Kl:decide (ha<en)=false:=by simp<;>omega
     by_cases h4:st=4
     . rw[aW (Or.inr (Or.inr h4))]
       obtain⟨NB,NC,ND,NF,NG⟩:=rT (x:=st) (c:=4) (ci:=4) (by omega);clear IB hlt h4;go_enter Tryz.func225,Tryz.ntmps225;go_wp2_with fail
       go_region_held3 (fun E=>zS E b0 0 bh 0∧zT E b1 0 id∧zS E bh 0 A.V 0∧zS E A.V 2 A.ba 0)
        (first|exact⟨c0,c1,h0,e2⟩|assumption|exact HK.out _ (Kp.of (by assumption) (by assumption) (by assumption)))
        (first|(go_at_call 48;refine HP.out.mono ?_;rintro e E ⟨rfl,rfl⟩)|(go_at_call 42;refine HL.out.mono ?_;rintro e H ⟨rfl,q1,q2⟩;have q4:=HG.out.trans q2;have q3:=bU.refl A s;clear q2)|(go_at_call 109;refine (HU.out _).mono ?_;rintro e E ⟨rfl,rfl⟩))
       have HQ:=U (zA (‹aF A D.tick _›) (‹Grow A.L w A.L _›));obtain⟨d0,d1,d2,d3,d4,d5,d6⟩:=HB.out _ HQ.out.1 HQ.out.2;go_wp2_with (go_at_call 211;refine (wJ.out _ HQ.out.1 HQ.out.2).mono ?_;rintro e w2 ⟨A2,v,rfl,p1,p2,p3,p4⟩);go_ret;exact⟨A2,v,rfl,p1,HQ.out.2.trans p2,p3,p4⟩
     . rw[bu (by omega)]
       obtain⟨NB,NC,ND,NF,NG⟩:=qE (x:=st) (c:=4) (ci:=4) (by omega)
       by_cases h2:st=2
       . rw[aW h2]
         obtain⟨fd1,Qm,Qn,Qo,Qp⟩:=rT (x:=st) (c:=2) (ci:=2) (by omega);clear IB hlt h4 h2;go_enter Tryz.func225,Tryz.ntmps225;go_wp2_with fail
         go_region_held3 (fun E=>zS E b0 0 bh 0∧zT E b1 0 id∧zS E bh 0 A.V 0∧zS E A.V 2 A.ba 0)
          (first|exact⟨c0,c1,h0,e2⟩|assumption|exact HK.out _ (Kp.of (by assumption) (by assumption) (by assumption)))
          (first|(go_at_call 48;refine HP.out.mono ?_;rintro e E ⟨rfl,rfl⟩)|(go_at_call 42;refine HL.out.mono ?_;rintro e H ⟨rfl,q1,q2⟩;have q4:=HG.out.trans q2;have q3:=bU.refl A s;clear q2)|(go_at_call 109;refine (HU.out _).mono ?_;rintro e E ⟨rfl,rfl⟩))
         have HQ:=U (zA (‹aF A D.tick _›) (‹Grow A.L w A.L _›));obtain⟨d0,d1,d2,d3,d4,d5,d6⟩:=HB.out _ HQ.out.1 HQ.out.2;go_wp2_with fail;refine wp_region_still_tail 9 (by kernel_rfl) (by kernel_rfl) ?_;simp only[jZ,j6,kg,kr]
         repeat still_step
         refine wpStill_nil ?_;change wpList _ _ _ _ _ H.drew;have Oc:=U (HQ.out.2.trans (Grow.drew A.L H));have QK:=U (Vt.out H HQ.out.1);generalize H.drew=wd at*;go_wp2_with (first|(go_at_call 224;refine QK.out.mono ?_;rintro e w2 ⟨rfl,A2,p1,p2,p3,p4,p5⟩;have gg:=Oc.out.trans p2;have ek:kp A2 (D.tick.bind s id) s=kp A D s:=Au p3 p4 p5 (by rw[MR.out]) (by rw[MR.out]);have Vu:=U (CL.out A2 _ w2 p1 (UJ.out A2 _ w2 gg ek));obtain⟨d0,d2,d4⟩:=RP.out A2 w2 gg;have Fh:=U (zA gg p3);clear p1 p2 p3 p4 p5 gg ek)|(go_at_call 201;refine Vu.out.mono ?_;rintro e w3 ⟨A3,v,rfl,p1,p2,p3,p4⟩));go_ret;exact⟨A3,v,rfl,p1,Fh.out.1.trans p2,Fh.out.2.trans p3,p4⟩
       . rw[bu h2]
         obtain⟨fd1,Qm,Qn,Qo,Qp⟩:=qE (x:=st) (c:=2) (ci:=2) (by omega);clear IB hlt h4 h2;go_enter Tryz.func225,Tryz.ntmps225;go_wp2_with fail
         go_region_held3 (fun E=>zS E b0 0 bh 0∧zT E b1 0 id∧zS E bh 0 A.V 0∧zS E A.V 2 A.ba 0)
          (first|exact⟨c0,c1,h0,e2⟩|assumption|exact HK.out _ (Kp.of (by assumption) (by assumption) (by assumption)))
          (first|(go_at_call 48;refine HP.out.mono ?_;rintro e E ⟨rfl,rfl⟩)|(go_at_call 42;refine HL.out.mono ?_;rintro e H ⟨rfl,q1,q2⟩;have q4:=HG.out.trans q2;have q3:=bU.refl A s;clear q2)|(go_at_call 109;refine (HU.out _).mono ?_;rintro e E ⟨rfl,rfl⟩))
         have HQ:=U (zA (‹aF A D.tick _›) (‹Grow A.L w A.L _›));obtain⟨d0,d1,d2,d3,d4,d5,d6⟩:=HB.out _ HQ.out.1 HQ.out.2;go_wp2_with (go_at_call 201;refine (CL.out A D.tick _ HQ.out.1 (UJ.out A D.tick _ HQ.out.2 rfl)).mono ?_;rintro e w2 ⟨A2,v,rfl,p1,p2,p3,p4⟩);go_ret;exact⟨A2,v,rfl,p1,HQ.out.2.trans p2,p3,p4⟩
theorem QL (hR:aF A D w) (s:Nat) (hmp:A.mp=0) (t:bL) (ht:D.ai.getD s none=some t) (hu:dR) (G mb b0 b1 b2:Nat) (B0:ic (kp A D s) A.L w b0 hu) (B1:aP A.L w b1 (I mb)) (B2:aP A.L w b2 (zu G)) (hid:mb<=65535) (hpl:D.place mb<D.words.length) (hw:D.word (D.place mb)<18446744073709551616) (hbn:t.aR.length<1000000) (htl:D.aQ.length<1000000) (aN:D.count<4000000000000000000) (HT:wy (if bA (D.word (D.place mb))=2 then D.tick.bind s mb else D.tick) s hu G) (Vv:∀ A',aF A' (D.tick.bind s mb) w->True):
 zk 223 #[R b0 0,R b1 0,R b2 0] w (lF A w s (D.run s (.seen hu G mb))):=by
 obtain⟨bh,X0,hh0⟩:=B0;obtain⟨vt,TT,fh,hth⟩:=_root_.id hh0;have c0:=X0.cell;have c1:=B1.cell;have h0:w.cell? (J bh 0)=zs A.V 0:=fh.cell 0 rfl;have e2:=hR.z2;have HK:Hid (∀ E,Kp A w E->zS E b0 0 bh 0∧zT E b1 0 mb∧zS E bh 0 A.V 0∧zS E A.V 2 A.ba 0):=by
  obtain⟨_,x0⟩:=X0;obtain⟨_,x1⟩:=B1;exact fun E k=>⟨k.fix _ _ _ x0.1 c0,k.fix _ _ _ x1.1 c1,k.fix _ _ _ fh.1 h0,k.ea⟩
 have HP:=U (eY hR.drew mb hid);have HL:=U (iN hR.drew (D.place mb) hpl aN);have HU:=U (fun E=>iX (D.word (D.place mb)) hw E);have HG:=zG A.L w;have HB:Hid (∀ H,aF A D.tick H->Grow A.L w A.L H->zS H b0 0 bh 0∧zT H b1 0 mb∧zV H b2 0 G∧zS H bh 0 A.V 0∧zS H bh 1 (A.bt s) 0∧H.cell? (J bh 4)=some (vt)):=by
  intro H q g;exact⟨(X0.grow g).cell,(B1.grow g).cell,(B2.grow g).cell,(fh.grow g).cell 0 rfl,(fh.grow g).cell 1 rfl,(fh.grow g).cell 4 rfl⟩
 have UJ:Hid (∀ A' bF H,Grow A.L w A'.L H->kp A' bF s=kp A D s->dS (kp A' bF s) A'.L H bh hu):=fun A' bF H g e=>by rw[e];exact hh0.grow g
 have Vt:Hid (∀ H,aF A D.tick H->zk 224 #[R A.V 0,R (A.bt s) 0,I mb] H.drew (Does A H.drew s (D.tick.bind s mb) (.tuple #[]))):=fun H q=>Da q.drew s t ht mb hid hbn htl
 have hbc:(D.tick.bind s mb).calls=D.calls:=by unfold St.bind;split<;>rfl
 have hcc:((D.tick.bind s mb).c s)=D.c s:=by unfold St.c;rw[hbc]
 have MR:=U hcc;have RP:Hid (∀ (A':az) H,Grow A.L w A'.L H->zS H b0 0 bh 0∧zV H b2 0 G∧H.cell? (J bh 4)=some vt):=fun A' H g=>⟨(X0.grow g).cell,(B2.grow g).cell,(fh.grow g).cell 4 rfl⟩
 have aU:D.run s (.seen hu G mb)=if bA (D.word (D.place mb))=4 then (D.tick,some (.start hu)) else if bA (D.word (D.place mb))=2 then (((D.tick.bind s mb).thn s hu G).1,some ((D.tick.bind s mb).thn s hu G).2) else ((D.tick.thn s hu G).1,some (D.tick.thn s hu G).2):=by
  simp only[St.run];split
  . rfl
  . split<;>rfl
 rw[aU];obtain⟨fv,cv,rfl,hent⟩:=hth.enter;have CR:Hid (∀ A' bF H,Grow A.L w A'.L H->kp A' bF s=kp A D s->kM (kp A' bF s) A'.L H (.func (.func fv) #[] cv) hu.F hu.thn):=fun A' bF H g e=>by rw[e];exact hth.grow g
 have Ta:=U HT;have Xt:=U hmp;clear hR hid hpl hw aN X0 B1 B2 fh hth hh0 aU hmp HT hbn htl hbc hcc ht Vv;generalize D.word (D.place mb)=x at*;generalize hst:bA x=st at*;generalize hen:il x=en at*;clear hst hen
 by_cases h4:st=4
 . rw[aW h4]
   obtain⟨NB,NC,ND,NF,NG⟩:=rT (x:=st) (c:=4) (ci:=4) (by omega);clear h4 Ta;go_enter Tryz.func223,Tryz.ntmps223;go_wp2_with fail
   go_region_held3 (fun E=>zS E b0 0 bh 0∧zT E b1 0 mb∧zS E bh 0 A.V 0∧zS E A.V 2 A.ba 0)
    (first|exact⟨c0,c1,h0,e2⟩|assumption|exact HK.out _ (Kp.of (by assumption) (by assumption) (by assumption)))
    (first|(go_at_call 48;refine HP.out.mono ?_;rintro e E ⟨rfl,rfl⟩)|(go_at_call 42;refine HL.out.mono ?_;rintro e H ⟨rfl,q1,q2⟩;have q4:=HG.out.trans q2;have q3:=bU.refl A s;clear q2)|(go_at_call 109;refine (HU.out _).mono ?_;rintro e E ⟨rfl,rfl⟩))
   have HQ:=U (zA (‹aF A D.tick _›) (‹Grow A.L w A.L _›));obtain⟨d0,d1,d2,d4,d5,d6⟩:=HB.out _ HQ.out.1 HQ.out.2;go_wp2_with fail;go_ret;exact⟨A,_,rfl,HQ.out.1,HQ.out.2,bU.refl _ _,_,rfl,UJ.out A D.tick _ HQ.out.2 rfl⟩
 . rw[bu h4]
   obtain⟨NB,NC,ND,NF,NG⟩:=qE (x:=st) (c:=4) (ci:=4) (by omega)
   by_cases h2:st=2
   . rw[aW h2]
     rw[aW h2] at Ta;obtain⟨fd1,Qm,Qn,Qo,Qp⟩:=rT (x:=st) (c:=2) (ci:=2) (by omega);clear h4 h2;go_enter Tryz.func223,Tryz.ntmps223;go_wp2_with fail
     go_region_held3 (fun E=>zS E b0 0 bh 0∧zT E b1 0 mb∧zS E bh 0 A.V 0∧zS E A.V 2 A.ba 0)
      (first|exact⟨c0,c1,h0,e2⟩|assumption|exact HK.out _ (Kp.of (by assumption) (by assumption) (by assumption)))
      (first|(go_at_call 48;refine HP.out.mono ?_;rintro e E ⟨rfl,rfl⟩)|(go_at_call 42;refine HL.out.mono ?_;rintro e H ⟨rfl,q1,q2⟩;have q4:=HG.out.trans q2;have q3:=bU.refl A s;clear q2)|(go_at_call 109;refine (HU.out _).mono ?_;rintro e E ⟨rfl,rfl⟩))
     have HQ:=U (zA (‹aF A D.tick _›) (‹Grow A.L w A.L _›));obtain⟨d0,d1,d2,d4,d5,d6⟩:=HB.out _ HQ.out.1 HQ.out.2;go_wp2_with fail;refine wp_region_still_tail 9 (by kernel_rfl) (by kernel_rfl) ?_;simp only[jZ,j6,kg,kr]
     repeat still_step
     refine wpStill_nil ?_;change wpList _ _ _ _ _ H.drew;have Oc:=U (HQ.out.2.trans (Grow.drew A.L H));have QK:=U (Vt.out H HQ.out.1);generalize H.drew=wd at*;go_wp2_with (go_at_call 224;refine QK.out.mono ?_;rintro e w2 ⟨rfl,A2,p1,p2,p3,p4,p5⟩;have gg:=Oc.out.trans p2;have ek:kp A2 (D.tick.bind s mb) s=kp A D s:=Au p3 p4 p5 (by rw[MR.out]) (by rw[MR.out]);obtain⟨d0,d2,d4⟩:=RP.out A2 w2 gg;have Fh:=U (zA gg (zA p3 (zA p1 (zA ek (p3.mp.trans Xt.out)))));clear p1 p2 p3 p4 p5 gg ek);refine wp_region_still_tail 5 (by kernel_rfl) (by kernel_rfl) ?_;simp only[jZ,j6,kg,kr]
     repeat still_step
     refine wpStill_nil ?_;change wpList _ _ _ _ _ w2.drew;have Tc:=U (Fh.out.1.trans (Grow.drew A2.L w2));have Td:=Ta.out A2 w2.drew Fh.out.2.2.1.drew Fh.out.2.2.2.2 _ fv cv Fh.out.2.2.1.drew (Grow.refl _ _) (CR.out A2 _ _ Tc.out Fh.out.2.2.2.1);have HF:=U Td;clear Td;generalize w2.drew=wd2 at*;go_wp2_with fail;refine HF.out.mono ?_;rintro e w4 ⟨A',v,rfl,q1,q2,q3,q4⟩;go_wp2_with fail;go_ret;exact⟨A',v,rfl,q1,Tc.out.trans q2,Fh.out.2.1.trans q3,q4⟩
   . rw[bu h2]
     rw[bu h2] at Ta;obtain⟨fd1,Qm,Qn,Qo,Qp⟩:=qE (x:=st) (c:=2) (ci:=2) (by omega);clear h4 h2;go_enter Tryz.func223,Tryz.ntmps223;go_wp2_with fail
     go_region_held3 (fun E=>zS E b0 0 bh 0∧zT E b1 0 mb∧zS E bh 0 A.V 0∧zS E A.V 2 A.ba 0)
      (first|exact⟨c0,c1,h0,e2⟩|assumption|exact HK.out _ (Kp.of (by assumption) (by assumption) (by assumption)))
      (first|(go_at_call 48;refine HP.out.mono ?_;rintro e E ⟨rfl,rfl⟩)|(go_at_call 42;refine HL.out.mono ?_;rintro e H ⟨rfl,q1,q2⟩;have q4:=HG.out.trans q2;have q3:=bU.refl A s;clear q2)|(go_at_call 109;refine (HU.out _).mono ?_;rintro e E ⟨rfl,rfl⟩))
     have HQ:=U (zA (‹aF A D.tick _›) (‹Grow A.L w A.L _›));obtain⟨d0,d1,d2,d4,d5,d6⟩:=HB.out _ HQ.out.1 HQ.out.2;go_wp2_with fail;refine wp_region_still_tail 5 (by kernel_rfl) (by kernel_rfl) ?_;simp only[jZ,j6,kg,kr]
     repeat still_step
     refine wpStill_nil ?_;change wpList _ _ _ _ _ H.drew;have Oc:=U (HQ.out.2.trans (Grow.drew A.L H));have Td:=Ta.out A H.drew HQ.out.1.drew Xt.out _ fv cv HQ.out.1.drew (Grow.refl _ _) (CR.out A _ _ Oc.out rfl);have HF:=U Td;clear Td;generalize H.drew=wd at*;go_wp2_with fail;refine HF.out.mono ?_;rintro e w4 ⟨A',v,rfl,q1,q2,q3,q4⟩;go_wp2_with fail;go_ret;exact⟨A',v,rfl,q1,Oc.out.trans q2,q3,q4⟩
end Go.Proofs.YthicolbbmjfkfaaGreat.Em
