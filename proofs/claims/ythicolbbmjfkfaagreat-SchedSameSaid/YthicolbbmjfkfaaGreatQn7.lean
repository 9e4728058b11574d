import Derived.Test.YthicolbbmjfkfaaGreatQn5
import Derived.Test.YthicolbbmjfkfaaGreatQn6
set_option linter.unusedVariables false
set_option linter.unusedSimpArgs false
set_option maxRecDepth 100000
set_option maxHeartbeats 1600000
namespace Go.Proofs.YthicolbbmjfkfaaGreat.Em
open Go.ChangeShapes Go.WideShapes Go.ChangeAt Go.RowKit En
theorem xe {A:au} {D:St} {w:World} (hR:aC A D w) (s G:Nat):
 zk 171 #[R A.H 0,R (A.bt s) 0,R (A.bc s) 0,.pointer (some ⟨(kp A D s).x,0,none⟩),zu G] w (bE A w s (D,.over G)):=by
 have ae:=zH (jB hR #[R A.H 0] 32 #[R (A.bt s) 0] 100 #[R (A.bc s) 0] 105 #[.pointer (some ⟨(kp A D s).x,0,none⟩)] 223 #[zu G] 25);clear hR;go_enter Tryz.func171,Tryz.ntmps171;go_wp2;go_ret;obtain⟨r1,r2,f0,f1,f2,f3,f4⟩:=ae.out;exact⟨A,_,rfl,r1,r2,bT.refl _ _,_,_,_,_,_,rfl,f0.box,f2.box,f4.box,f1.box,f3.box⟩
variable {A:au} {D:St} {w:World}
theorem Bi (hR:aC A D w) (s:Nat) (t:bL) (ht:D.aj.getD s none=some t) (G head:Nat) (aL:D.count<4000000000000000000) (hv:VL D G) (b0 b1 b2 b3 b4 b5:Nat)
 (B0:aN A.L w b0 (R A.H 0)) (B1:aN A.L w b1 (zu G)) (B2:aN A.L w b2 (.pointer (some ⟨(kp A D s).x,0,none⟩))) (B3:aN A.L w b3 (R (A.bt s) 0)) (B4:aN A.L w b4 (R (A.bc s) 0)) (B5:jO A.L w b5 true head):
 zk 169 #[R b0 0,R b1 0,R b2 0,R b3 0,R b4 0,R b5 0] w (kY A w s (D.run s (.dZ true G head))):=by
 have hsl:=hR.sl;obtain⟨hv5,X5,R5⟩:=B5;obtain⟨ha,hn,hcap,rfl,hlen,hcap1,hcap2,hrow⟩:=R5;have c0:=B0.cell;have c1:=B1.cell;have e2:=hR.z2;have HS:=zH (flip (eQ G 1 1 rfl hv.lo (by have:=hv.hi;omega) hv.u (by omega) w.drew));have HF:=zH (rD w.drew);have HL:=zH (fT hR.drew (af G 1) ever (dO hR hv.lo hv.hi (by omega)) aL);have HG:=zG A.L w;have HB:Hid (∀ Y,aC A (D.put (af G 1) ever) Y->Grow A.L w A.L Y->zk 171 #[R A.H 0,R (A.bt s) 0,R (A.bc s) 0,.pointer (some ⟨(kp A D s).x,0,none⟩),zu G] Y (bE A Y s (D.put (af G 1) ever,.over G))∧zS Y b0 0 A.H 0∧zV Y b1 0 G∧Y.cell? (J b2 0)=some (.pointer (some ⟨(kp A D s).x,0,none⟩))∧zS Y b3 0 (A.bt s) 0∧zS Y b4 0 (A.bc s) 0):=
  fun Y q g=>⟨xe q s G,(B0.grow g).cell,(B1.grow g).cell,(B2.grow g).cell,(B3.grow g).cell,(B4.grow g).cell⟩
 have aX:D.run s (.dZ true G head)=(D.put (af G 1) ever,some (.over G)):=rfl;rw[aX];clear hR ht aL hv B0 B1 B2 B3 B4 X5 aX hsl hlen hcap1 hcap2 hrow;go_enter Tryz.func169,Tryz.ntmps169;go_wp2_with fail;refine wp_region_still_tail 7 (by kernel_rfl) (by kernel_rfl) ?_;simp only[jS,jT,jU,jV]
 repeat still_step
 still_call HS.out
 still_call HF.out
 refine wpStill_nil ?_;change wpList _ _ _ _ _ w.drew;generalize w.drew=wd at*;go_wp2_with (first|(go_at_call 47;refine HL.out.mono ?_;rintro e Y ⟨rfl,q1,q2⟩;have g1:=HG.out.trans q2;obtain⟨hf,d0,d1,d2,d3,d4⟩:=HB.out Y q1 g1;have HQ:=zH (zA hf g1);clear q1 q2 g1 hf)|(go_at_call 171;refine HQ.out.1.mono ?_;rintro e w2 ⟨A2,v,rfl,p1,p2,p3,p4⟩));go_ret;exact⟨A2,v,rfl,p1,HQ.out.2.trans p2,p3,p4⟩
theorem yX (hR:aC A D w) (s:Nat) (t:bL) (ht:D.aj.getD s none=some t) (G head:Nat) (aL:D.count<4000000000000000000) (hv:VL D G) (b0 b1 b2 b3 b4 b5:Nat)
 (B0:aN A.L w b0 (R A.H 0)) (B1:aN A.L w b1 (zu G)) (B2:aN A.L w b2 (.pointer none)) (B3:aN A.L w b3 (R (A.bt s) 0)) (B4:aN A.L w b4 (R (A.bc s) 0)) (B5:jO A.L w b5 false head):
 zk 169 #[R b0 0,R b1 0,R b2 0,R b3 0,R b4 0,R b5 0] w (kY A w s (D.run s (.dZ false G head))):=by
 have hsl:=hR.sl;obtain⟨hv5,X5,R5⟩:=B5;obtain⟨ha,hn,hcap,rfl,hlen,hcap1,hcap2,hrow⟩:=R5;have c0:=B0.cell;have c1:=B1.cell;have e2:=hR.z2;have HS:=zH (flip (eQ G 1 1 rfl hv.lo (by have:=hv.hi;omega) hv.u (by omega) w.drew));have HF:=zH (rD w.drew);have HL:=zH (fT hR.drew (af G 1) ever (dO hR hv.lo hv.hi (by omega)) aL);have HG:=zG A.L w;have hn1:hn=1:=by simpa using hlen.symm
 subst hn1;obtain⟨hg,hoff,rfl,Vl,Oh,hcs⟩:=hrow.resolve_left (by omega);have h0:w.cell? (J hg hoff)=zv head:=hcs 0 (by omega);have HB:Hid (∀ Y,aC A (D.put (af G 1) ever) Y->Grow A.L w A.L Y->zk 170 #[R A.H 0,R (A.bt s) 0,R (A.bc s) 0,zu G,zu head] Y.drew (bE A Y.drew s (D.put (af G 1) ever,.push G head))∧zS Y b0 0 A.H 0∧zV Y b1 0 G∧Y.cell? (J b2 0)=some (.pointer none)∧zS Y b3 0 (A.bt s) 0∧zS Y b4 0 (A.bc s) 0∧Y.cell? (J b5 0)=some (.slice (some (J hg hoff)) 1 hcap)∧zV Y hg hoff head):=
  fun Y q g=>⟨KH q.drew s G head,(B0.grow g).cell,(B1.grow g).cell,(B2.grow g).cell,(B3.grow g).cell,(B4.grow g).cell,(X5.grow g).cell,(World.cell?_of_block (w:=w) (a:=(J hg hoff)) (g.block hg Oh Vl)).trans h0⟩
 have aX:D.run s (.dZ false G head)=(D.put (af G 1) ever,some (.push G head)):=rfl;rw[aX];clear hR ht aL hv B0 B1 B2 B3 B4 X5 aX hsl hlen hcap1 hcap2 hrow hcs h0;go_enter Tryz.func169,Tryz.ntmps169;go_wp2_with fail;refine wp_region_still_tail 7 (by kernel_rfl) (by kernel_rfl) ?_;simp only[jS,jT,jU,jV]
 repeat still_step
 still_call HS.out
 still_call HF.out
 refine wpStill_nil ?_;change wpList _ _ _ _ _ w.drew;generalize w.drew=wd at*;go_wp2_with (go_at_call 47;refine HL.out.mono ?_;rintro e Y ⟨rfl,q1,q2⟩;have g1:=HG.out.trans q2;obtain⟨hf,d0,d1,d2,d3,d4,d5,d6⟩:=HB.out Y q1 g1;have HQ:=zH (zA hf (g1.trans (Grow.drew _ _)));clear q1 q2 g1 hf);refine wp_region_still_tail 7 (by kernel_rfl) (by kernel_rfl) ?_;simp only[jS,jT,jU,jV]
 repeat still_step
 refine wpStill_nil ?_;change wpList _ _ _ _ _ Y.drew;generalize Y.drew=Tt at*;go_wp2_with (go_at_call 170;refine HQ.out.1.mono ?_;rintro e w2 ⟨A2,v,rfl,p1,p2,p3,p4⟩);go_ret;exact⟨A2,v,rfl,p1,HQ.out.2.trans p2,p3,p4⟩
theorem Oi (hR:aC A D w) (s:Nat) (t:bL) (ht:D.aj.getD s none=some t) (x:Bool) (G head:Nat) (aL:D.count<4000000000000000000) (hv:VL D G) (b0 b1 b2 b3 b4 b5:Nat)
 (B0:aN A.L w b0 (R A.H 0)) (B1:aN A.L w b1 (zu G)) (B2:aN A.L w b2 ((kp A D s).xo x)) (B3:aN A.L w b3 (R (A.bt s) 0)) (B4:aN A.L w b4 (R (A.bc s) 0)) (B5:jO A.L w b5 x head):
 zk 169 #[R b0 0,R b1 0,R b2 0,R b3 0,R b4 0,R b5 0] w (kY A w s (D.run s (.dZ x G head))):=by
 cases x
 . exact yX hR s t ht G head aL hv b0 b1 b2 b3 b4 b5 B0 B1 B2 B3 B4 B5
 . exact Bi hR s t ht G head aL hv b0 b1 b2 b3 b4 b5 B0 B1 B2 B3 B4 B5
theorem Oj (hR:aC A D w) (s:Nat) (x now:Nat) (hx:x<18446744073709551616) (hi:aZ x<=2000) (aL:D.count<4000000000000000000) (b0 b1 b2:Nat)
 (B0:aN A.L w b0 (R A.H 0)) (B1:aN A.L w b1 (zu x)) (B2:nS (kp A D s) A.L w b2 x now):
 zk 123 #[R b0 0,R b1 0,R b2 0] w (kY A w s (D.run s (.ed x now))):=by
 have c0:=B0.cell;have c1:=B1.cell;have HH:=zH (wR hR x hx hi aL);obtain⟨tv,X2,m0,m1,m2,m3,m4,Kl,N0,N1,N2,N3,N4⟩:=B2;have HB:Hid (∀ Y,Grow A.L w A.L Y->Y.cell? (J b2 0)=some tv):=fun Y g=>(X2.grow g).cell
 have HN:=zH (zA N0 (zA N1 (zA N2 (zA N3 N4))));have aX:D.run s (.ed x now)=(D.dx x,some (.turn x now)):=rfl;rw[aX];clear hR hx hi aL B0 B1 X2 N0 N1 N2 N3 N4 aX;subst Kl;go_enter Tryz.func123,Tryz.ntmps123;go_wp2_with (go_at_call 44;refine HH.out.mono ?_;rintro e Y ⟨rfl,q1,q2⟩;have d2:=HB.out Y q2;have HQ:=zH (zA q1 q2);clear q1 q2);go_ret;obtain⟨q1,q2⟩:=HQ.out;obtain⟨N0,N1,N2,N3,N4⟩:=HN.out;exact⟨A,_,rfl,q1,q2,bT.refl _ _,_,_,_,_,_,rfl,N0.grow q2,N1.grow q2,N2.grow q2,N3.grow q2,N4.grow q2⟩
theorem Df (hR:aC A D w) (s:Nat) (hx:D.word 0<18446744073709551616) (aL:D.count<4000000000000000000) (b0 b1 b2:Nat)
 (B0:aN A.L w b0 (R A.H 0)) (B1:aN A.L w b1 (R (A.bt s) 0)) (B2:aN A.L w b2 (R (A.bc s) 0)) (ho:D.limit<=ai (D.word 0)):
 zk 119 #[R b0 0,R b1 0,R b2 0] w (kY A w s (D.run s .draw)):=by
 have c0:=B0.cell;have e2:=hR.z2;have HL:=zH (iK hR 0 0 rfl (by rw[hR.nw];omega) aL);have HD:=zH (fun E=>kg (D.word 0) hx E);have HB:Hid (∀ Y,aC A D.tick Y->Grow A.L w A.L Y->∀ W3,(Y.alloc (.cells #[zu (D.word 0:Int)] 25)).alloc (.cells #[zu (ai (D.word 0):Int)] 25)=W3->∀ n w5,W3.drewN n=w5->aC A D.tick w5∧Grow A.L w A.L w5∧Fix A.L w5 Y.heap.size (.cells #[zu (D.word 0:Int)] 25)∧Fix A.L w5 (Y.heap.size+1) (.cells #[zu (ai (D.word 0):Int)] 25)∧zS w5 b0 0 A.H 0∧zS w5 b1 0 (A.bt s) 0∧zS w5 b2 0 (A.bc s) 0∧zV w5 A.H 1 (D.limit:Int)∧zV W3 Y.heap.size 0 (D.word 0:Int)∧W3.cell? ⟨Y.heap.size+1,0,none⟩=zv (ai (D.word 0):Int)∧zS W3 b0 0 A.H 0∧zV W3 A.H 1 (D.limit:Int)):=by
  rintro Y q1 q2 W3 rfl n w5 rfl;obtain⟨r3,g3,f0,f1⟩:=jy q1 #[zu (D.word 0:Int)] 25 #[zu (ai (D.word 0):Int)] 25;have gd:=Grow.drewN A.L ((Y.alloc (.cells #[zu (D.word 0:Int)] 25)).alloc (.cells #[zu (ai (D.word 0):Int)] 25)) n;have gg:=(q2.trans g3).trans gd;exact⟨r3.drewN n,gg,f0.grow gd,f1.grow gd,(B0.grow gg).cell,(B1.grow gg).cell,(B2.grow gg).cell,(r3.drewN n).df 1 rfl,f0.cell 0 rfl,f1.cell 0 rfl,(B0.grow (q2.trans g3)).cell,r3.df 1 rfl⟩
 have HX:=zH (zA B0 (zA B1 B2));have aX:D.run s .draw=(D.tick,some (.abort 14 6)):=by simp only[St.run];exact aV ho
 rw[aX];clear hR hx aL B0 B1 B2 aX;generalize D.word 0=x at*;generalize ai x=now at*;generalize aZ x=last at*;generalize D.limit=lim at*;have d1:decide ((lim:Int)<=(now:Int))=true:=by simpa using ho
 have d2:((lim:Int)<=(now:Int))=True:=by simpa using ho
 have d3:(lim<=now)=True:=by simpa using ho
 clear ho;go_enter Tryz.func119,Tryz.ntmps119;go_wp2_with (first|(go_at_call 42;refine HL.out.mono ?_;rintro e Y ⟨rfl,q1,q2⟩;obtain⟨_,_,_,_,_,_,_,_,y1,y2,y3,y4⟩:=HB.out Y q1 q2 _ rfl 0 _ rfl;have HQ:=zH (zA q1 q2);clear q1 q2)|(go_at_call 43;refine (HD.out _).mono ?_;rintro e E ⟨rfl,rfl⟩));generalize hw3:(Y.alloc _).alloc _=w3 at*
 go_quiet (fail)
 generalize iZ:w3.drewN _=w5;obtain⟨r5,g5,f0,f1,z0,z1,z2,z3,_⟩:=HB.out Y HQ.out.1 HQ.out.2 w3 hw3 _ w5 iZ;clear y1 y2 y3 y4 hw3 iZ;have ha:zk 97 #[R A.H 0,R (A.bt s) 0,R (A.bc s) 0,I 14,I 6] w5 (bE A w5 s (D.tick,.abort 14 6)):=jC r5 s 14 6;have HA:=zH (zA ha g5);clear r5 g5 f0 f1 ha;go_wp2_with (go_at_call 97;refine HA.out.1.mono ?_;rintro e w2 ⟨A2,v,rfl,p1,p2,p3,p4⟩);go_ret;exact⟨A2,v,rfl,p1,HA.out.2.trans p2,p3,p4⟩
theorem Dg (hR:aC A D w) (s:Nat) (hx:D.word 0<18446744073709551616) (aL:D.count<4000000000000000000) (b0 b1 b2:Nat)
 (B0:aN A.L w b0 (R A.H 0)) (B1:aN A.L w b1 (R (A.bt s) 0)) (B2:aN A.L w b2 (R (A.bc s) 0)) (ho:¬ D.limit<=ai (D.word 0)) (hl:aZ (D.word 0)=0):
 zk 119 #[R b0 0,R b1 0,R b2 0] w (kY A w s (D.run s .draw)):=by
 have c0:=B0.cell;have e2:=hR.z2;have HL:=zH (iK hR 0 0 rfl (by rw[hR.nw];omega) aL);have HD:=zH (fun E=>kg (D.word 0) hx E);have HB:Hid (∀ Y,aC A D.tick Y->Grow A.L w A.L Y->∀ W3,(Y.alloc (.cells #[zu (D.word 0:Int)] 25)).alloc (.cells #[zu (ai (D.word 0):Int)] 25)=W3->∀ n w5,W3.drewN n=w5->aC A D.tick w5∧Grow A.L w A.L w5∧Fix A.L w5 Y.heap.size (.cells #[zu (D.word 0:Int)] 25)∧Fix A.L w5 (Y.heap.size+1) (.cells #[zu (ai (D.word 0):Int)] 25)∧zS w5 b0 0 A.H 0∧zS w5 b1 0 (A.bt s) 0∧zS w5 b2 0 (A.bc s) 0∧zV w5 A.H 1 (D.limit:Int)∧zV W3 Y.heap.size 0 (D.word 0:Int)∧W3.cell? ⟨Y.heap.size+1,0,none⟩=zv (ai (D.word 0):Int)∧zS W3 b0 0 A.H 0∧zV W3 A.H 1 (D.limit:Int)):=by
  rintro Y q1 q2 W3 rfl n w5 rfl;obtain⟨r3,g3,f0,f1⟩:=jy q1 #[zu (D.word 0:Int)] 25 #[zu (ai (D.word 0):Int)] 25;have gd:=Grow.drewN A.L ((Y.alloc (.cells #[zu (D.word 0:Int)] 25)).alloc (.cells #[zu (ai (D.word 0):Int)] 25)) n;have gg:=(q2.trans g3).trans gd;exact⟨r3.drewN n,gg,f0.grow gd,f1.grow gd,(B0.grow gg).cell,(B1.grow gg).cell,(B2.grow gg).cell,(r3.drewN n).df 1 rfl,f0.cell 0 rfl,f1.cell 0 rfl,(B0.grow (q2.trans g3)).cell,r3.df 1 rfl⟩
 have HX:=zH (zA B0 (zA B1 B2));have aX:D.run s .draw=(D.tick,some (.turn (D.word 0) (ai (D.word 0)))):=by simp only[St.run];rw[aR (show ¬ D.tick.limit<=_ from ho),aV hl]
 rw[aX];clear hR hx aL B0 B1 B2 aX;generalize D.word 0=x at*;generalize ai x=now at*;generalize aZ x=last at*;generalize D.limit=lim at*;have d1:decide ((lim:Int)<=(now:Int))=false:=by simpa using ho
 have d2:((lim:Int)<=(now:Int))=False:=by simpa using ho
 have d3:(lim<=now)=False:=by simpa using ho
 have l1:((last:Int)==0)=true:=by simpa using hl
 have l2:((last:Int)=0)=True:=by simpa using hl
 clear ho hl;go_enter Tryz.func119,Tryz.ntmps119;go_wp2_with (first|(go_at_call 42;refine HL.out.mono ?_;rintro e Y ⟨rfl,q1,q2⟩;obtain⟨_,_,_,_,_,_,_,_,y1,y2,y3,y4⟩:=HB.out Y q1 q2 _ rfl 0 _ rfl;have HQ:=zH (zA q1 q2);clear q1 q2)|(go_at_call 43;refine (HD.out _).mono ?_;rintro e E ⟨rfl,rfl⟩));generalize hw3:(Y.alloc _).alloc _=w3 at*
 go_quiet (fail)
 generalize iZ:w3.drewN _=w5;obtain⟨r5,g5,f0,f1,z0,z1,z2,z3,_⟩:=HB.out Y HQ.out.1 HQ.out.2 w3 hw3 _ w5 iZ;clear y1 y2 y3 y4 hw3 iZ;obtain⟨r6,g6,f2⟩:=dA r5 #[.func (.func 120) #[] #[R b0 0,R Y.heap.size 0,.pointer (some ⟨Y.heap.size+1,0,none⟩),R b1 0,R b2 0]] 138;have u7:=f2.cell 0 (v:=.func (.func 120) #[] #[R b0 0,R Y.heap.size 0,.pointer (some ⟨Y.heap.size+1,0,none⟩),R b1 0,R b2 0]) rfl;have HZ:=zH (zA r6 (zA (g5.trans g6) (zA (f0.grow g6) (zA (f1.grow g6) f2))));clear r5 g5 f0 f1 r6 g6 f2;go_wp2_with fail;go_ret;obtain⟨r6,g6,f0,f1,f2⟩:=HZ.out;obtain⟨B0,B1,B2⟩:=HX.out;exact⟨A,_,rfl,r6,g6,bT.refl _ _,_,_,_,_,_,rfl,B0.grow g6,f0.box,f1.box,B1.grow g6,B2.grow g6⟩
theorem Di (hR:aC A D w) (s:Nat) (hx:D.word 0<18446744073709551616) (aL:D.count<4000000000000000000) (b0 b1 b2:Nat)
 (B0:aN A.L w b0 (R A.H 0)) (B1:aN A.L w b1 (R (A.bt s) 0)) (B2:aN A.L w b2 (R (A.bc s) 0)) (ho:¬ D.limit<=ai (D.word 0)) (hl:aZ (D.word 0)≠0):
 zk 119 #[R b0 0,R b1 0,R b2 0] w (kY A w s (D.run s .draw)):=by
 have c0:=B0.cell;have e2:=hR.z2;have HL:=zH (iK hR 0 0 rfl (by rw[hR.nw];omega) aL);have HD:=zH (fun E=>kg (D.word 0) hx E);have HB:Hid (∀ Y,aC A D.tick Y->Grow A.L w A.L Y->∀ W3,(Y.alloc (.cells #[zu (D.word 0:Int)] 25)).alloc (.cells #[zu (ai (D.word 0):Int)] 25)=W3->∀ n w5,W3.drewN n=w5->aC A D.tick w5∧Grow A.L w A.L w5∧Fix A.L w5 Y.heap.size (.cells #[zu (D.word 0:Int)] 25)∧Fix A.L w5 (Y.heap.size+1) (.cells #[zu (ai (D.word 0):Int)] 25)∧zS w5 b0 0 A.H 0∧zS w5 b1 0 (A.bt s) 0∧zS w5 b2 0 (A.bc s) 0∧zV w5 A.H 1 (D.limit:Int)∧zV W3 Y.heap.size 0 (D.word 0:Int)∧W3.cell? ⟨Y.heap.size+1,0,none⟩=zv (ai (D.word 0):Int)∧zS W3 b0 0 A.H 0∧zV W3 A.H 1 (D.limit:Int)):=by
  rintro Y q1 q2 W3 rfl n w5 rfl;obtain⟨r3,g3,f0,f1⟩:=jy q1 #[zu (D.word 0:Int)] 25 #[zu (ai (D.word 0):Int)] 25;have gd:=Grow.drewN A.L ((Y.alloc (.cells #[zu (D.word 0:Int)] 25)).alloc (.cells #[zu (ai (D.word 0):Int)] 25)) n;have gg:=(q2.trans g3).trans gd;exact⟨r3.drewN n,gg,f0.grow gd,f1.grow gd,(B0.grow gg).cell,(B1.grow gg).cell,(B2.grow gg).cell,(r3.drewN n).df 1 rfl,f0.cell 0 rfl,f1.cell 0 rfl,(B0.grow (q2.trans g3)).cell,r3.df 1 rfl⟩
 have HX:=zH (zA B0 (zA B1 B2));have aX:D.run s .draw=(D.tick,some (.ed (D.word 0) (ai (D.word 0)))):=by simp only[St.run];rw[aR (show ¬ D.tick.limit<=_ from ho),aR hl]
 rw[aX];clear hR hx aL B0 B1 B2 aX;generalize D.word 0=x at*;generalize ai x=now at*;generalize aZ x=last at*;generalize D.limit=lim at*;have d1:decide ((lim:Int)<=(now:Int))=false:=by simpa using ho
 have d2:((lim:Int)<=(now:Int))=False:=by simpa using ho
 have d3:(lim<=now)=False:=by simpa using ho
 have l1:((last:Int)==0)=false:=by simpa using hl
 have l2:((last:Int)=0)=False:=by simpa using hl
 clear ho hl;go_enter Tryz.func119,Tryz.ntmps119;go_wp2_with (first|(go_at_call 42;refine HL.out.mono ?_;rintro e Y ⟨rfl,q1,q2⟩;obtain⟨_,_,_,_,_,_,_,_,y1,y2,y3,y4⟩:=HB.out Y q1 q2 _ rfl 0 _ rfl;have HQ:=zH (zA q1 q2);clear q1 q2)|(go_at_call 43;refine (HD.out _).mono ?_;rintro e E ⟨rfl,rfl⟩));generalize hw3:(Y.alloc _).alloc _=w3 at*
 go_quiet (fail)
 generalize iZ:w3.drewN _=w5;obtain⟨r5,g5,f0,f1,z0,z1,z2,z3,_⟩:=HB.out Y HQ.out.1 HQ.out.2 w3 hw3 _ w5 iZ;clear y1 y2 y3 y4 hw3 iZ;obtain⟨r6,g6,f2⟩:=dA r5 #[.func (.func 120) #[] #[R b0 0,R Y.heap.size 0,.pointer (some ⟨Y.heap.size+1,0,none⟩),R b1 0,R b2 0]] 138;have u7:=f2.cell 0 (v:=.func (.func 120) #[] #[R b0 0,R Y.heap.size 0,.pointer (some ⟨Y.heap.size+1,0,none⟩),R b1 0,R b2 0]) rfl;have HZ:=zH (zA r6 (zA (g5.trans g6) (zA (f0.grow g6) (zA (f1.grow g6) f2))));clear r5 g5 f0 f1 r6 g6 f2;go_wp2_with fail;go_ret;obtain⟨r6,g6,f0,f1,f2⟩:=HZ.out;obtain⟨B0,B1,B2⟩:=HX.out;exact⟨A,_,rfl,r6,g6,bT.refl _ _,_,_,_,rfl,B0.grow g6,f0.box,_,f2.box,_,_,_,_,_,rfl,B0.grow g6,f0.box,f1.box,B1.grow g6,B2.grow g6⟩
theorem QV (hR:aC A D w) (s:Nat) (hx:D.word 0<18446744073709551616) (aL:D.count<4000000000000000000) (b0 b1 b2:Nat)
 (B0:aN A.L w b0 (R A.H 0)) (B1:aN A.L w b1 (R (A.bt s) 0)) (B2:aN A.L w b2 (R (A.bc s) 0)):
 zk 119 #[R b0 0,R b1 0,R b2 0] w (kY A w s (D.run s .draw)):=by
 by_cases ho:D.limit<=ai (D.word 0)
 . exact Df hR s hx aL b0 b1 b2 B0 B1 B2 ho
 . by_cases hl:aZ (D.word 0)=0
   . exact Dg hR s hx aL b0 b1 b2 B0 B1 B2 ho hl
   . exact Di hR s hx aL b0 b1 b2 B0 B1 B2 ho hl
theorem Dj (hR:aC A D w) (s:Nat) (t:bL) (ht:D.aj.getD s none=some t) (x now:Nat) (hn:now<281474976710655) (hid:t.id<65536) (htl:D.aT.length<1000000) (aL:D.count<4000000000000000000) (b0 b1 b2 b3 b4:Nat)
 (B0:aN A.L w b0 (R A.H 0)) (B1:aN A.L w b1 (zu x)) (B2:aN A.L w b2 (zu now)) (B3:aN A.L w b3 (R (A.bt s) 0)) (B4:aN A.L w b4 (R (A.bc s) 0)) (hm:D.word 0≠x):
 zk 120 #[R b0 0,R b1 0,R b2 0,R b3 0,R b4 0] w (kY A w s (D.run s (.turn x now))):=by
 have c0:=B0.cell;have c1:=B1.cell;have c2:=B2.cell;have c3:=B3.cell;have e2:=hR.z2;have t0:w.cell? (J (A.bt s) 0)=zt t.id:=hR.fw ht 0 rfl;have n1:IntKind.u64.wrap ((now:Int)+1)=(now:Int)+1:=by rw[IntKind.wrap_u64];omega
 have Z:zk 46 #[zu ((now:Int)+1),I t.id] w.drew fun e E=>e=.returned (zu ((aW (now+1) t.id:Nat):Int))∧E=w.drew:=flip (oI (now+1) t.id (by omega) hid w.drew)
 have HC:=zH Z;have HL:=zH (vE hR.drew 0 x (aW (now+1) t.id) 0 rfl (by rw[hR.nw];omega) aL);have HG:=zG A.L w;have aX:D.run s (.turn x now)=(D.tick,some .draw):=by simp[St.run,St.cB,hm]
 rw[aX];have hb:(D.word 0==x)=false:=by simpa using hm
 have hcs:D.cB 0 x (aW (now+1) t.id)=D.tick:=aR hm;rw[hb,hcs] at HL;have HB:Hid (∀ Y,aC A D.tick Y->Grow A.L w A.L Y->zk 96 #[R A.H 0,R (A.bt s) 0,R (A.bc s) 0] Y (bE A Y s (D.tick,.draw))∧zS Y b0 0 A.H 0∧zS Y b3 0 (A.bt s) 0∧zS Y b4 0 (A.bc s) 0):=
  fun Y q g=>⟨CK q s,(B0.grow g).cell,(B3.grow g).cell,(B4.grow g).cell⟩
 clear hR ht hn hid htl aL B0 B1 B2 B3 B4 hm aX hb hcs Z;go_enter Tryz.func120,Tryz.ntmps120;go_wp2_with fail;refine wp_region_still_tail 12 (by kernel_rfl) (by kernel_rfl) ?_;simp only[jS,jT,jU,jV]
 repeat still_step
 still_call HC.out
 refine wpStill_nil ?_;change wpList _ _ _ _ _ w.drew;generalize w.drew=wd at*;go_wp2_with (first|(go_at_call 45;refine HL.out.mono ?_;rintro e Y ⟨rfl,q1,q2⟩;have g1:=HG.out.trans q2;obtain⟨hf,d0,d3,d4⟩:=HB.out Y q1 g1;have HQ:=zH (zA hf g1);clear q1 q2 g1 hf)|(go_at_call 96;refine HQ.out.1.mono ?_;rintro e w2 ⟨A2,v,rfl,p1,p2,p3,p4⟩));go_ret;exact⟨A2,v,rfl,p1,HQ.out.2.trans p2,p3,p4⟩
theorem FB (hR:aC A D w) (s:Nat) (t:bL) (ht:D.aj.getD s none=some t) (x now:Nat) (hn:now<281474976710655) (hid:t.id<65536) (htl:D.aT.length<1000000) (aL:D.count<4000000000000000000) (b0 b1 b2 b3 b4:Nat)
 (B0:aN A.L w b0 (R A.H 0)) (B1:aN A.L w b1 (zu x)) (B2:aN A.L w b2 (zu now)) (B3:aN A.L w b3 (R (A.bt s) 0)) (B4:aN A.L w b4 (R (A.bc s) 0)) (hm:D.word 0=x):
 zk 120 #[R b0 0,R b1 0,R b2 0,R b3 0,R b4 0] w (kY A w s (D.run s (.turn x now))):=by
 have c0:=B0.cell;have c1:=B1.cell;have c2:=B2.cell;have c3:=B3.cell;have e2:=hR.z2;have t0:w.cell? (J (A.bt s) 0)=zt t.id:=hR.fw ht 0 rfl;have n1:IntKind.u64.wrap ((now:Int)+1)=(now:Int)+1:=by rw[IntKind.wrap_u64];omega
 have Z:zk 46 #[zu ((now:Int)+1),I t.id] w.drew fun e E=>e=.returned (zu ((aW (now+1) t.id:Nat):Int))∧E=w.drew:=flip (oI (now+1) t.id (by omega) hid w.drew)
 have HC:=zH Z;have HL:=zH (vE hR.drew 0 x (aW (now+1) t.id) 0 rfl (by rw[hR.nw];omega) aL);have HG:=zG A.L w;have aX:D.run s (.turn x now)=(((D.put 0 (aW (now+1) t.id)).bK s {t with aA:=now+1}).event {kind:=3,t:=t.id,n:=now+1},some .dR):=by
  have e:∀ bB:St,bB.aj=D.aj->bB.t s=t:=fun bB h=>by unfold St.t;rw[h,ht];rfl
  simp[St.run,St.cB,hm,e _ (show (D.put 0 (aW (now+1) t.id)).aj=D.aj from rfl),e D rfl]
 rw[aX];have hb:(D.word 0==x)=true:=by simpa using hm
 have hcs:D.cB 0 x (aW (now+1) t.id)=D.put 0 (aW (now+1) t.id):=aV hm;rw[hb,hcs] at HL
 have HB : Hid (∀ Y, aC A (D.put 0 (aW (now + 1) t.id)) Y -> Grow A.L w A.L Y -> zV Y b2 0 (now : Int) ∧ zS Y b3 0 (A.bt s) 0 ∧ zV Y (A.bt s) 4 (t.aA : Int) ∧ Y.frozen? (J (A.bt s) 4) = false ∧
     (∀ ws, Y.setCell (J (A.bt s) 4) (zu ((now : Int) + 1)) = ws -> zS ws b0 0 A.H 0 ∧ zS ws b3 0 (A.bt s) 0 ∧ zT ws (A.bt s) 0 (t.id : Int) ∧ zV ws (A.bt s) 4 ((now : Int) + 1) ∧ Grow A.L w A.L ws ∧
       zk 50 #[R A.H 0,.agg #[I 3,I t.id,zu ((now:Int)+1),I 0,I 0,I 0,I 0,I 0,I 0,.slice none 0 0,I 0,I 0]] ws.drew (Does A ws.drew s (((D.put 0 (aW (now+1) t.id)).bK s {t with aA:=now+1}).event {kind:=3,t:=t.id,n:=now+1}) (.tuple #[])))):=by
  intro Y q g;have ht1:(D.put 0 (aW (now+1) t.id)).aj.getD s none=some t:=ht;refine⟨(B2.grow g).cell,(B3.grow g).cell,q.fw ht1 4 rfl,q.wO ht1 4,?_⟩;rintro ws rfl;obtain⟨r2,g2⟩:=q.E9 ht1 {t with aA:=now+1} 4 (zu ((now:Int)+1)) (by simp[eO]) rfl rfl rfl rfl;have ht2:((D.put 0 (aW (now+1) t.id)).bK s {t with aA:=now+1}).aj.getD s none=some {t with aA:=now+1}:=by rw[dC (dB ht1),aV rfl]
  have gg:=g.trans g2;exact⟨(B0.grow gg).cell,(B3.grow gg).cell,r2.fw ht2 0 rfl,r2.fw ht2 4 rfl,gg,mY r2.drew s _ 3 t.id (now+1) 0 0 0 0 0 0 0 0 none 0 0 rfl (kW.nil _ _) htl⟩
 have HX:=zH (zA B0 (zA B3 B4));clear hR ht hn hid htl aL B0 B1 B2 B3 B4 hm aX hb hcs Z;go_enter Tryz.func120,Tryz.ntmps120;go_wp2_with fail;refine wp_region_still_tail 12 (by kernel_rfl) (by kernel_rfl) ?_;simp only[jS,jT,jU,jV]
 repeat still_step
 still_call HC.out
 refine wpStill_nil ?_;change wpList _ _ _ _ _ w.drew;generalize w.drew=wd at*;go_wp2_with (go_at_call 45;refine HL.out.mono ?_;rintro e Y ⟨rfl,q1,q2⟩;have g1:=HG.out.trans q2;obtain⟨d2,d3,d4,d5,hf⟩:=HB.out Y q1 g1;have HQ:=zH hf;clear q1 q2 g1 hf);generalize hws:World.setCell _ _ _=ws;obtain⟨a0,a3,a5,a4,gg,hf⟩:=HQ.out ws hws;have HE:=zH (zA hf gg);clear d2 d3 d4 d5 hf gg hws HQ;refine wp_region_still_tail 10 (by kernel_rfl) (by kernel_rfl) ?_;simp only[jS,jT,jU,jV]
 repeat still_step
 refine wpStill_nil ?_;change wpList _ _ _ _ _ ws.drew;have HG2:Hid (Grow A.L ws A.L ws.drew):=Grow.drew _ _;generalize ws.drew=wd2 at*;go_wp2_with (go_at_call 50;refine HE.out.1.mono ?_;rintro e w2 ⟨rfl,A2,p1,p2,p3,p4,p5⟩;have HR:=zH (zA p1 (zA p2 (zA p3 (zA p4 p5))));clear p1 p2 p3 p4 p5);go_ret;obtain⟨p1,p2,p3,p4,p5⟩:=HR.out;obtain⟨B0,B3,B4⟩:=HX.out;have g3:=(HE.out.2.trans HG2.out).trans p2;refine⟨A2,_,rfl,p1,g3,p3,?_⟩;have ek:kp A2 (((D.put 0 (aW (now+1) t.id)).bK s {t with aA:=now+1}).event {kind:=3,t:=t.id,n:=now+1}) s=kp A D s:=Bd p3 p4 p5 rfl rfl;show ny (kp A2 _ s) _ _ _ _;rw[ek];exact⟨_,_,_,rfl,B0.grow g3,B3.grow g3,B4.grow g3⟩
theorem QW (hR:aC A D w) (s:Nat) (t:bL) (ht:D.aj.getD s none=some t) (x now:Nat) (hn:now<281474976710655) (hid:t.id<65536) (htl:D.aT.length<1000000) (aL:D.count<4000000000000000000) (b0 b1 b2 b3 b4:Nat)
 (B0:aN A.L w b0 (R A.H 0)) (B1:aN A.L w b1 (zu x)) (B2:aN A.L w b2 (zu now)) (B3:aN A.L w b3 (R (A.bt s) 0)) (B4:aN A.L w b4 (R (A.bc s) 0)):
 zk 120 #[R b0 0,R b1 0,R b2 0,R b3 0,R b4 0] w (kY A w s (D.run s (.turn x now))):=by
 by_cases hm:D.word 0=x
 . exact FB hR s t ht x now hn hid htl aL b0 b1 b2 b3 b4 B0 B1 B2 B3 B4 hm
 . exact Dj hR s t ht x now hn hid htl aL b0 b1 b2 b3 b4 B0 B1 B2 B3 B4 hm
theorem QX (hR:aC A D w) (s:Nat) (c:dN) (hc:D.calls.getD s none=some c) (G:Nat) (Z:c.op.F<64) (aL:D.count<4000000000000000000)
 (b0 b1 b2 b3 b4:Nat) (B0:aN A.L w b0 (R A.H 0)) (B1:aN A.L w b1 (R (A.bc s) 0)) (B2:aN A.L w b2 (zu G)) (B3:aN A.L w b3 (R (A.bt s) 0)) (B4:aN A.L w b4 (.pointer (some ⟨(kp A D s).x,0,none⟩))):
 zk 192 #[R b0 0,R b1 0,R b2 0,R b3 0,R b4 0] w (kY A w s (D.run s (.over G))):=by
 have c0:=B0.cell;have c1:=B1.cell;have e2:=hR.z2;have k1:w.cell? (J (A.bc s) 1)=zt c.op.F:=hR.call hc 1 rfl;have n1:IntKind.i64.wrap (9+(c.op.F:Int))=9+(c.op.F:Int):=by rw[jG];omega
 have HL:Hid (∀ E,aC A D E->zk 42 #[R A.ba 0,I (9+(c.op.F:Int))] E (vC A E D.tick (zu (D.word (9+c.op.F):Int)))):=fun E r=>iK r (9+c.op.F) (9+(c.op.F:Int)) (by omega) (by rw[r.nw];omega) aL
 have nT:Hid (aC A D w.drew):=hR.drew;have x0:=World.new_ne w _ c0;have x1:=World.new_ne w _ c1;have x2:=World.new_ne w _ e2;have x3:=World.new_ne w _ k1;have HKK:Hid (∀ E,aC A D.tick E->Grow A.L w A.L E->zS E b0 0 A.H 0∧zS E b1 0 (A.bc s) 0∧zS E A.H 2 A.ba 0∧zT E (A.bc s) 1 c.op.F):=fun E r g=>⟨(B0.grow g).cell,(B1.grow g).cell,r.df 2 rfl,r.call hc 1 rfl⟩
 have FC:Hid (Fix A.L (w.drew.alloc (.cells #[zu 0] 25)) w.heap.size (.cells #[zu 0] 25)):=eP hR.drew.mem.fresh _ rfl;have hl0:A.L w.heap.size=none:=hR.mem.fresh _ (zr _);have vH:Hid (∀ E,aC A D.tick E->Grow A.L w A.L E->(E.setCell (J w.heap.size 0) (zu (D.word (9+c.op.F):Int))).cell? (J b0 0)=zs A.H 0∧(E.setCell (J w.heap.size 0) (zu (D.word (9+c.op.F):Int))).cell? (J b1 0)=zs (A.bc s) 0∧(E.setCell (J w.heap.size 0) (zu (D.word (9+c.op.F):Int))).cell? (J A.H 2)=zs A.ba 0∧(E.setCell (J w.heap.size 0) (zu (D.word (9+c.op.F):Int))).cell? (J (A.bc s) 1)=zt c.op.F):=fun E r g=>by
  obtain⟨r',g'⟩:=hR.ou r g rfl rfl (a:=(J w.heap.size 0)) (zr _) hl0 (zu (D.word (9+c.op.F):Int));exact HKK.out _ r' g'
 have aX:D.run s (.over G)=(D.tick,some (.iq G (D.word (9+c.op.F)))):=by simp only[St.run,bu hc]
 rw[aX];have HG:=zG A.L w;have HB:=zH (zA B0 (zA B1 (zA B2 (zA B3 B4))));have Jh:Hid (∀ E,aC A D.tick E->Grow A.L w A.L E->aC A D.tick (E.setCell (J w.heap.size 0) (zu (D.word (9+c.op.F):Int)))∧Grow A.L w A.L (E.setCell (J w.heap.size 0) (zu (D.word (9+c.op.F):Int)))):=fun E r g=>hR.ou r g rfl rfl (a:=(J w.heap.size 0)) (zr _) hl0 (zu (D.word (9+c.op.F):Int))
 clear hl0;clear hR hc aL B0 B1 B2 B3 B4 aX Z;generalize D.word (9+c.op.F)=hd at*;generalize c.op.F=F at*;go_enter Tryz.func192,Tryz.ntmps192;go_wp2_with fail
 go_region_held3 (fun E=>zS E b0 0 A.H 0∧zS E b1 0 (A.bc s) 0∧zS E A.H 2 A.ba 0∧zT E (A.bc s) 1 F)
  (first|exact⟨c0,c1,e2,k1⟩|assumption|go_keep|exact HKK.out _ (by assumption) (by assumption)|exact HKK.out _ (aC.alloc (by assumption) _) (Grow.trans (by assumption) (Grow.alloc _ _ _))|exact vH.out _ (by assumption) (by assumption))
  (first|(go_at_call 42;refine (HL.out _ nT.out).mono ?_;rintro e Y ⟨rfl,q1,q2⟩;have q4:=HG.out.trans q2)|(go_at_call 42;refine (HL.out _ (nT.out.alloc _)).mono ?_;rintro e Y ⟨rfl,q1,q2⟩;have q4:=(HG.out.trans (Grow.alloc _ _ _)).trans q2;have fx:=FC.out.grow q2;have nb:=fx.cell 0 (v:=zu 0) rfl;have nz:=fx.frozen 0;have FX:=zH fx;clear fx))
 . go_wp2_with fail
   go_ret;obtain⟨r3,g3,f0⟩:=dA q1 #[zu hd] 25;have g:=q4.trans g3;obtain⟨B0,B1,B2,B3,B4⟩:=HB.out;exact⟨A,_,rfl,r3,g,bT.refl _ _,_,_,_,_,_,_,rfl,B0.grow g,B2.grow g,f0.box,B1.grow g,B3.grow g,B4.grow g⟩
 . go_wp2_with fail
   go_ret;obtain⟨r3,g⟩:=Jh.out _ q1 q4;obtain⟨B0,B1,B2,B3,B4⟩:=HB.out;exact⟨A,_,rfl,r3,g,bT.refl _ _,_,_,_,_,_,_,rfl,B0.grow g,B2.grow g,(FX.out.wF _).box,B1.grow g,B3.grow g,B4.grow g⟩
theorem Lb (hR:aC A D w) (s:Nat) (G x1 id:Nat) (hid:id<=65535) (hpl:D.place id<D.words.length) (hw:D.word (D.place id)<18446744073709551616) (aL:D.count<4000000000000000000) (b0 b1 b2 b3 b4 b5:Nat)
 (B0:aN A.L w b0 (R A.H 0)) (B1:aN A.L w b1 (I id)) (B2:aN A.L w b2 (R (A.bt s) 0)) (B3:aN A.L w b3 (R (A.bc s) 0)) (B4:aN A.L w b4 (zu G)) (B5:aN A.L w b5 (zu x1)):
 zk 157 #[R b0 0,R b1 0,R b2 0,R b3 0,R b4 0,R b5 0] w (kY A w s (D.run s (.ib G x1 id))):=by
 have c0:=B0.cell;have c1:=B1.cell;have e2:=hR.z2;have HK:Hid (∀ E,Kp A w E->zS E b0 0 A.H 0∧zT E b1 0 id∧zS E A.H 2 A.ba 0):=by
  obtain⟨_,x0⟩:=B0;obtain⟨_,x1⟩:=B1;exact fun E k=>⟨k.fix _ _ _ x0.1 c0,k.fix _ _ _ x1.1 c1,k.ea⟩
 have HP:=zH (fu hR.drew id hid);have HL:=zH (iJ hR.drew (D.place id) hpl aL);have HU:=zH (fun E=>jl (D.word (D.place id)) hw E);have HG:=zG A.L w;have HB:Hid (∀ Y,aC A D.tick Y->Grow A.L w A.L Y->zS Y b0 0 A.H 0∧zS Y b2 0 (A.bt s) 0∧zS Y b3 0 (A.bc s) 0∧zV Y b4 0 G∧zV Y b5 0 x1):=fun Y q g=>⟨(B0.grow g).cell,(B2.grow g).cell,(B3.grow g).cell,(B4.grow g).cell,(B5.grow g).cell⟩
 have aX:D.run s (.ib G x1 id)=(D.tick,some (if bz (D.word (D.place id))≠4 then .abort 14 2 else .claim G x1)):=by
  simp only[St.run];split<;>rfl
 rw[aX];have Tv:Hid (∀ Y,aC A D.tick Y->zk 97 #[R A.H 0,R (A.bt s) 0,R (A.bc s) 0,I 14,I 2] Y (bE A Y s (D.tick,.abort 14 2))):=fun Y q=>jC q s 14 2
 have VQ:Hid (∀ Y,aC A D.tick Y->zk 156 #[R A.H 0,R (A.bt s) 0,R (A.bc s) 0,zu G,zu x1] Y (bE A Y s (D.tick,.claim G x1))):=fun Y q=>zI q s G x1
 clear hR hid hpl hw aL B0 B1 B2 B3 B4 B5 aX;generalize D.word (D.place id)=x at*;generalize hst:bz x=st at*;generalize hen:gX x=en at*;clear hst hen
 by_cases h4:st=4
 . rw[aR (fun h=>h h4)]
   obtain⟨Ob,Oc,Od,Oe,Og⟩:=uA (x:=st) (c:=4) (ci:=4) (by omega);clear h4;go_enter Tryz.func157,Tryz.ntmps157;go_wp2_with fail
   go_region_held3 (fun E=>zS E b0 0 A.H 0∧zT E b1 0 id∧zS E A.H 2 A.ba 0)
    (first|exact⟨c0,c1,e2⟩|assumption|exact HK.out _ (Kp.of (by assumption) (by assumption) (by assumption)))
    (first|(go_at_call 48;refine HP.out.mono ?_;rintro e E ⟨rfl,rfl⟩)|(go_at_call 42;refine HL.out.mono ?_;rintro e Y ⟨rfl,q1,q2⟩;have q4:=HG.out.trans q2;have q3:=bT.refl A s;clear q2)|(go_at_call 109;refine (HU.out _).mono ?_;rintro e E ⟨rfl,rfl⟩))
   have HQ:=zH (zA (‹aC A D.tick _›) (‹Grow A.L w A.L _›));obtain⟨d0,d2,d3,d4,d5⟩:=HB.out _ HQ.out.1 HQ.out.2;go_wp2_with (go_at_call 156;refine (VQ.out _ HQ.out.1).mono ?_;rintro e w2 ⟨A2,v,rfl,p1,p2,p3,p4⟩);go_ret;exact⟨A2,v,rfl,p1,HQ.out.2.trans p2,p3,p4⟩
 . rw[aV h4]
   obtain⟨Ob,Oc,Od,Oe,Og⟩:=rf (x:=st) (c:=4) (ci:=4) (by omega);clear h4;go_enter Tryz.func157,Tryz.ntmps157;go_wp2_with fail
   go_region_held3 (fun E=>zS E b0 0 A.H 0∧zT E b1 0 id∧zS E A.H 2 A.ba 0)
    (first|exact⟨c0,c1,e2⟩|assumption|exact HK.out _ (Kp.of (by assumption) (by assumption) (by assumption)))
    (first|(go_at_call 48;refine HP.out.mono ?_;rintro e E ⟨rfl,rfl⟩)|(go_at_call 42;refine HL.out.mono ?_;rintro e Y ⟨rfl,q1,q2⟩;have q4:=HG.out.trans q2;have q3:=bT.refl A s;clear q2)|(go_at_call 109;refine (HU.out _).mono ?_;rintro e E ⟨rfl,rfl⟩))
   have HQ:=zH (zA (‹aC A D.tick _›) (‹Grow A.L w A.L _›));obtain⟨d0,d2,d3,d4,d5⟩:=HB.out _ HQ.out.1 HQ.out.2;go_wp2_with (go_at_call 97;refine (Tv.out _ HQ.out.1).mono ?_;rintro e w2 ⟨A2,v,rfl,p1,p2,p3,p4⟩);go_ret;exact⟨A2,v,rfl,p1,HQ.out.2.trans p2,p3,p4⟩
theorem QY (hR:aC A D w) (s:Nat) (t:bL) (ht:D.aj.getD s none=some t) (c:dN) (hc:D.calls.getD s none=some c) (i bd:Nat) (hi:t.aP[i]? =some bd) (hil:t.aP.length<1000000) (hid:bd<=65535) (hpl:D.place bd<D.words.length) (hw:D.word (D.place bd)<18446744073709551616) (aL:D.count<4000000000000000000) (b0 b1 b2 b3 b4:Nat)
 (B0:aN A.L w b0 (R A.H 0)) (B1:aN A.L w b1 (R (A.bt s) 0)) (B2:aN A.L w b2 (I i)) (B3:aN A.L w b3 (R (A.bc s) 0)) (B4:aN A.L w b4 (.func (.func 164) #[] #[R b0 0,R b1 0,R b2 0,R b3 0,R b4 0])):
 zk 164 #[R b0 0,R b1 0,R b2 0,R b3 0,R b4 0] w (kY A w s (D.run s (.wait i))):=by
 have hown0:=hR.mem.all (.aP s);rw[mV ht] at hown0;have hj:(t.aP.map i64)[i]? =zt bd:=by rw[List.getElem?_map,hi];rfl
 obtain⟨g0,jc,hv,_⟩:=kZ hown0.1 hj;have HKK:Hid (∀ bB E,aC A bB E->bB.aj=D.aj->Grow A.L w A.L E->zS E b0 0 A.H 0∧zS E b1 0 (A.bt s) 0∧zT E b2 0 i∧zS E A.H 2 A.ba 0∧E.cell? (J (A.bt s) 9)=some (.slice (some (J g0 0)) t.aP.length jc)∧zT E g0 i bd):=by
  intro bB E r he g;have ht':bB.aj.getD s none=some t:=by rw[he];exact ht
  have h9:=r.fw ht' 9 (v:=A.dY s) rfl;have aU:=r.mem.all (.aP s);rw[mV ht'] at aU;obtain⟨g1,xc,hv1,hc1⟩:=kZ aU.1 hj;obtain rfl:g0=g1:=by rw[hv] at hv1;simp at hv1;exact hv1.1
  rw[hv] at h9;exact⟨(B0.grow g).cell,(B1.grow g).cell,(B2.grow g).cell,r.df 2 rfl,h9,hc1⟩
 have VR:Hid (∀ E,aC A D.tick E->Grow A.L w A.L E->zS E b0 0 A.H 0∧zS E b1 0 (A.bt s) 0∧zT E b2 0 i∧zS E A.H 2 A.ba 0∧E.cell? (J (A.bt s) 9)=some (.slice (some (J g0 0)) t.aP.length jc)∧zT E g0 i bd):=fun E r g=>HKK.out D.tick E r rfl g
 obtain⟨c0,c1,c2,e2,h9,hg⟩:=HKK.out D w hR rfl (Grow.refl _ _);have b1':(i:Int)<(t.aP.length:Int):=by have:=(List.getElem?_eq_some_iff.1 hi).1;omega
 have b0':(0:Int)<=(i:Int):=by omega
 have HP:=zH (fu hR.drew bd hid);have HL:=zH (iJ hR.drew (D.place bd) hpl aL);have HU:=zH (fun E=>jl (D.word (D.place bd)) hw E);have HG:=zG A.L w;have HB:Hid (∀ Y,aC A D.tick Y->Grow A.L w A.L Y->zS Y b0 0 A.H 0∧zS Y b1 0 (A.bt s) 0∧zT Y b2 0 i∧zS Y b3 0 (A.bc s) 0∧Y.cell? (J b4 0)=some (.func (.func 164) #[] #[R b0 0,R b1 0,R b2 0,R b3 0,R b4 0])∧zB Y (A.bc s) 10 c.waits∧Y.frozen? (J (A.bc s) 10)=false):=
  fun Y q g=>⟨(B0.grow g).cell,(B1.grow g).cell,(B2.grow g).cell,(B3.grow g).cell,(B4.grow g).cell,q.call (s:=s) (c:=c) hc 10 rfl,q.qh (s:=s) (c:=c) hc 10⟩
 have hgd:t.aP.getD i 0=bd:=by rw[mM,hi];rfl
 have aX:D.run s (.wait i)=if bz (D.word (D.place bd))=3 then (D.tick,some (jJ t (i+1))) else if bz (D.word (D.place bd))=4 then (D.tick,some (.abort 14 4)) else (D.tick.aK s {c with waits:=true},some (.wait i)):=by
  have e1:D.t s=t:=cK ht;have e2:D.tick.t s=t:=cK ht;have e3:D.tick.c s=c:=bu hc;simp only[St.run,e1,e2,e3,hgd]
 rw[aX];have n1:IntKind.i64.wrap ((i:Int)+1)=(i:Int)+1:=by have:=(List.getElem?_eq_some_iff.1 hi).1;rw[jG];omega
 have Tv:Hid (∀ Y,aC A D.tick Y->zk 97 #[R A.H 0,R (A.bt s) 0,R (A.bc s) 0,I 14,I 4] Y (bE A Y s (D.tick,.abort 14 4))):=fun Y q=>jC q s 14 4
 have YS:Hid (∀ Y,aC A D.tick Y->zk 144 #[R A.H 0,R (A.bt s) 0,R (A.bc s) 0,I ((i:Int)+1)] Y (bE A Y s (D.tick,jJ t (i+1)))):=fun Y q=>CO q s t ht (i+1)
 have HST:Hid (∀ Y,aC A D.tick Y->Grow A.L w A.L Y->∀ ws,Y.setCell (J (A.bc s) 10) (.bool true)=ws->aC A (D.tick.aK s {c with waits:=true}) ws∧Grow A.L w A.L ws∧ws.cell? (J b4 0)=some (.func (.func 164) #[] #[R b0 0,R b1 0,R b2 0,R b3 0,R b4 0])):=by
  rintro Y q g ws rfl;obtain⟨r2,g2⟩:=q.sK (s:=s) (c:=c) hc {c with waits:=true} 10 (.bool true) (by simp[fH]) rfl;exact⟨r2,g.trans g2,(B4.grow (g.trans g2)).cell⟩
 have hkp:kp A (D.tick.aK s {c with waits:=true}) s=kp A D s:=by
  have e:(D.tick.aK s {c with waits:=true}).c s={c with waits:=true}:=bu (by rw[dm (D:=D.tick) (bP hc),aV rfl]);unfold kp;rw[e,bu hc]
 have YT:=zH hkp;clear hkp;have HX:=zH (zA B0 (zA B1 (zA B2 (zA B3 B4))));clear hR ht hc hi hil hid hpl hw aL B0 B1 B2 B3 B4 hown0 hj hv hgd aX;generalize D.word (D.place bd)=x at*;generalize hst:bz x=st at*;generalize hen:gX x=en at*;clear hst hen;generalize hbl:t.aP.length=n at*
 by_cases h3:st=3
 . rw[aV h3]
   obtain⟨Ob,Oc,Od,Oe,Og⟩:=uA (x:=st) (c:=3) (ci:=3) (by omega);clear h3;go_enter Tryz.func164,Tryz.ntmps164;go_wp2_with fail
   go_region_held3 (fun E=>zS E b0 0 A.H 0∧zS E b1 0 (A.bt s) 0∧zT E b2 0 i∧zS E A.H 2 A.ba 0∧E.cell? (J (A.bt s) 9)=some (.slice (some (J g0 0)) n jc)∧zT E g0 i bd)
    (first|exact⟨c0,c1,c2,e2,h9,hg⟩|assumption|exact VR.out _ (by assumption) (by assumption))
    (first|(go_at_call 48;refine HP.out.mono ?_;rintro e E ⟨rfl,rfl⟩)|(go_at_call 42;refine HL.out.mono ?_;rintro e Y ⟨rfl,q1,q2⟩;have q4:=HG.out.trans q2;have q3:=bT.refl A s;clear q2)|(go_at_call 109;refine (HU.out _).mono ?_;rintro e E ⟨rfl,rfl⟩))
   have HQ:=zH (zA (‹aC A D.tick _›) (‹Grow A.L w A.L _›));obtain⟨d0,d1,d2,d3,d4,d5,d6⟩:=HB.out _ HQ.out.1 HQ.out.2;go_wp2_with (go_at_call 144;refine (YS.out _ HQ.out.1).mono ?_;rintro e w2 ⟨A2,v,rfl,p1,p2,p3,p4⟩);go_ret;exact⟨A2,v,rfl,p1,HQ.out.2.trans p2,p3,p4⟩
 . rw[aR h3]
   obtain⟨Ob,Oc,Od,Oe,Og⟩:=rf (x:=st) (c:=3) (ci:=3) (by omega)
   by_cases h4:st=4
   . rw[aV h4]
     obtain⟨fd1,QN,QO,QP,QQ⟩:=uA (x:=st) (c:=4) (ci:=4) (by omega);clear h3 h4;go_enter Tryz.func164,Tryz.ntmps164;go_wp2_with fail
     go_region_held3 (fun E=>zS E b0 0 A.H 0∧zS E b1 0 (A.bt s) 0∧zT E b2 0 i∧zS E A.H 2 A.ba 0∧E.cell? (J (A.bt s) 9)=some (.slice (some (J g0 0)) n jc)∧zT E g0 i bd)
      (first|exact⟨c0,c1,c2,e2,h9,hg⟩|assumption|exact VR.out _ (by assumption) (by assumption))
      (first|(go_at_call 48;refine HP.out.mono ?_;rintro e E ⟨rfl,rfl⟩)|(go_at_call 42;refine HL.out.mono ?_;rintro e Y ⟨rfl,q1,q2⟩;have q4:=HG.out.trans q2;have q3:=bT.refl A s;clear q2)|(go_at_call 109;refine (HU.out _).mono ?_;rintro e E ⟨rfl,rfl⟩))
     have HQ:=zH (zA (‹aC A D.tick _›) (‹Grow A.L w A.L _›));obtain⟨d0,d1,d2,d3,d4,d5,d6⟩:=HB.out _ HQ.out.1 HQ.out.2;go_wp2_with (go_at_call 97;refine (Tv.out _ HQ.out.1).mono ?_;rintro e w2 ⟨A2,v,rfl,p1,p2,p3,p4⟩);go_ret;exact⟨A2,v,rfl,p1,HQ.out.2.trans p2,p3,p4⟩
   . rw[aR h4]
     obtain⟨fd1,QN,QO,QP,QQ⟩:=rf (x:=st) (c:=4) (ci:=4) (by omega);clear h3 h4;go_enter Tryz.func164,Tryz.ntmps164;go_wp2_with fail
     go_region_held3 (fun E=>zS E b0 0 A.H 0∧zS E b1 0 (A.bt s) 0∧zT E b2 0 i∧zS E A.H 2 A.ba 0∧E.cell? (J (A.bt s) 9)=some (.slice (some (J g0 0)) n jc)∧zT E g0 i bd)
      (first|exact⟨c0,c1,c2,e2,h9,hg⟩|assumption|exact VR.out _ (by assumption) (by assumption))
      (first|(go_at_call 48;refine HP.out.mono ?_;rintro e E ⟨rfl,rfl⟩)|(go_at_call 42;refine HL.out.mono ?_;rintro e Y ⟨rfl,q1,q2⟩;have q4:=HG.out.trans q2;have q3:=bT.refl A s;clear q2)|(go_at_call 109;refine (HU.out _).mono ?_;rintro e E ⟨rfl,rfl⟩))
     have HQ:=zH (zA (‹aC A D.tick _›) (‹Grow A.L w A.L _›));obtain⟨d0,d1,d2,d3,d4,d5,d6⟩:=HB.out _ HQ.out.1 HQ.out.2;go_wp2_with fail;generalize hws:World.setCell _ _ _=ws;obtain⟨r2,g2,d7⟩:=HST.out _ HQ.out.1 HQ.out.2 ws hws;have HZ:=zH (zA r2 g2);clear d0 d1 d2 d3 d4 d5 d6 r2 g2 hws;go_wp2_with fail;go_ret;obtain⟨B0,B1,B2,B3,B4⟩:=HX.out;obtain⟨r2,g2⟩:=HZ.out;refine⟨A,_,rfl,r2,g2,bT.refl _ _,?_⟩;show ny (kp A _ s) _ _ _ _;rw[YT.out];exact⟨_,_,_,_,_,rfl,B0.grow g2,B1.grow g2,B2.grow g2,B3.grow g2,B4.grow g2⟩
theorem Bj (hR:aC A D w) (s:Nat) (t:bL) (ht:D.aj.getD s none=some t) (c:dN) (hc:D.calls.getD s none=some c) (hmp:A.mp=0) (G x1:Nat) (hv:VL D G) (h1:1<=t.id) (h2:t.id<=65535) (hx:t.cell c.op.F=none) (hkl:t.keys.length<1000000) (hp:iR D) (aL:D.count<4000000000000000000) (b0 b1 b2 b3 b4:Nat)
 (B0:aN A.L w b0 (R A.H 0)) (B1:aN A.L w b1 (zu G)) (B2:aN A.L w b2 (zu x1)) (B3:aN A.L w b3 (R (A.bt s) 0)) (B4:aN A.L w b4 (R (A.bc s) 0)) (hm:D.word (af G 1)≠x1):
 zk 176 #[R b0 0,R b1 0,R b2 0,R b3 0,R b4 0] w (kY A w s (D.run s (.claim G x1))):=by
 have c0:=B0.cell;have c1:=B1.cell;have c2:=B2.cell;have c3:=B3.cell;have hsl:=hR.sl;have e2:=hR.z2;have hs1:zk 85 #[zu G,I 1] w.drew fun e E=>e=.returned (I ((af G 1:Nat):Int))∧E=w.drew:=flip (eQ G 1 1 rfl hv.lo (by have:=hv.hi;omega) hv.u (by omega) w.drew)
 have HS:=zH hs1;have hm1:zk 126 #[R (A.bt s) 0] w.drew fun e E=>e=.returned (zu ((mine t:Nat):Int))∧E=w.drew:=flip (qz hR.drew s t ht h1 h2)
 have HM:=zH hm1;have HL:=zH (nO hR.drew (af G 1) x1 (mine t) (dO hR hv.lo hv.hi (by omega)) aL);have HG:=zG A.L w;have aX:D.run s (.claim G x1)=(D.tick,some (.own G)):=by simp[St.run,St.cB,hm]
 rw[aX];have hb:(D.word (af G 1)==x1)=false:=by simpa using hm
 have hcs:D.cB (af G 1) x1 (mine t)=D.tick:=aR hm;rw[hb,hcs] at HL;have HB:Hid (∀ Y,aC A D.tick Y->Grow A.L w A.L Y->zk 132 #[R A.H 0,R (A.bt s) 0,R (A.bc s) 0,zu G] Y (bE A Y s (D.tick,.own G))∧zS Y b0 0 A.H 0∧zV Y b1 0 G∧zS Y b3 0 (A.bt s) 0∧zS Y b4 0 (A.bc s) 0):=
  fun Y q g=>⟨Hz q s G,(B0.grow g).cell,(B1.grow g).cell,(B3.grow g).cell,(B4.grow g).cell⟩
 clear hR ht hc hv h1 h2 hx hkl hp aL B0 B1 B2 B3 B4 hm aX hb hcs hs1 hm1 hsl hmp;generalize mine t=mt at*;generalize af G 1=ws at*;go_enter Tryz.func176,Tryz.ntmps176;go_wp2_with fail;refine wp_region_still_tail 9 (by kernel_rfl) (by kernel_rfl) ?_;simp only[jS,jT,jU,jV]
 repeat still_step
 still_call HS.out
 repeat still_step
 still_call HM.out
 refine wpStill_nil ?_;change wpList _ _ _ _ _ w.drew;generalize w.drew=wd at*;go_wp2_with (first|(go_at_call 45;refine HL.out.mono ?_;rintro e Y ⟨rfl,q1,q2⟩;have g1:=HG.out.trans q2;obtain⟨hf,d0,d1,d3,d4⟩:=HB.out Y q1 g1;have HQ:=zH (zA hf g1);clear q1 q2 g1 hf)|(go_at_call 132;refine HQ.out.1.mono ?_;rintro e w2 ⟨A2,v,rfl,p1,p2,p3,p4⟩));go_ret;exact⟨A2,v,rfl,p1,HQ.out.2.trans p2,p3,p4⟩
theorem Dk (hR:aC A D w) (s:Nat) (t:bL) (ht:D.aj.getD s none=some t) (c:dN) (hc:D.calls.getD s none=some c) (hmp:A.mp=0) (G x1:Nat) (hv:VL D G) (h1:1<=t.id) (h2:t.id<=65535) (hx:t.cell c.op.F=none) (hkl:t.keys.length<1000000) (hp:iR D) (aL:D.count<4000000000000000000) (b0 b1 b2 b3 b4:Nat)
 (B0:aN A.L w b0 (R A.H 0)) (B1:aN A.L w b1 (zu G)) (B2:aN A.L w b2 (zu x1)) (B3:aN A.L w b3 (R (A.bt s) 0)) (B4:aN A.L w b4 (R (A.bc s) 0)) (hm:D.word (af G 1)=x1):
 zk 176 #[R b0 0,R b1 0,R b2 0,R b3 0,R b4 0] w (kY A w s (D.run s (.claim G x1))):=by
 have c0:=B0.cell;have c1:=B1.cell;have c2:=B2.cell;have c3:=B3.cell;have hsl:=hR.sl;have e2:=hR.z2;have hs1:zk 85 #[zu G,I 1] w.drew fun e E=>e=.returned (I ((af G 1:Nat):Int))∧E=w.drew:=flip (eQ G 1 1 rfl hv.lo (by have:=hv.hi;omega) hv.u (by omega) w.drew)
 have HS:=zH hs1;have hm1:zk 126 #[R (A.bt s) 0] w.drew fun e E=>e=.returned (zu ((mine t:Nat):Int))∧E=w.drew:=flip (qz hR.drew s t ht h1 h2)
 have HM:=zH hm1;have HL:=zH (nO hR.drew (af G 1) x1 (mine t) (dO hR hv.lo hv.hi (by omega)) aL);have HG:=zG A.L w;have aX:D.run s (.claim G x1)=if c.op.kind=4 then (((D.put (af G 1) (mine t)).bS s c.op.F ⟨0,G,false⟩),some (.fin {})) else ((((D.put (af G 1) (mine t)).bS s c.op.F ⟨0,G,false⟩).slot s true 0 0).1,some (((D.put (af G 1) (mine t)).bS s c.op.F ⟨0,G,false⟩).slot s true 0 0).2):=by
  have e1:D.t s=t:=cK ht;have e2:(D.put (af G 1) (mine t)).c s=c:=bu hc;have e3:((D.put (af G 1) (mine t)).bS s c.op.F ⟨0,G,false⟩).c s=c:=bu hc;have hcs:D.cB (af G 1) x1 (mine t)=D.put (af G 1) (mine t):=aV hm;simp only[St.run,e1,hcs,e2,e3,hm,ne_eq,not_true_eq_false,if_false]
 have uI:=zH aX;generalize D.run s (.claim G x1)=rr at*;have hb:(D.word (af G 1)==x1)=true:=by simpa using hm
 have hcs:D.cB (af G 1) x1 (mine t)=D.put (af G 1) (mine t):=aV hm;rw[hb,hcs] at HL;have HB:Hid (∀ Y,aC A (D.put (af G 1) (mine t)) Y->Grow A.L w A.L Y->zk 177 #[R (A.bt s) 0,I c.op.F,zu G] Y.drew (QM A Y.drew s c.op.F ((D.put (af G 1) (mine t)).bS s c.op.F ⟨0,G,false⟩))∧zV Y b1 0 G∧zS Y b3 0 (A.bt s) 0∧zS Y b4 0 (A.bc s) 0∧zT Y (A.bc s) 1 c.op.F):=
  fun Y q g=>⟨wY q.drew s t ht c.op.F G hx hkl,(B1.grow g).cell,(B3.grow g).cell,(B4.grow g).cell,q.call (s:=s) (c:=c) hc 1 rfl⟩
 have HE : Hid (∀ w2 A1 b, aC A1 ((D.put (af G 1) (mine t)).bS s c.op.F ⟨0, G, false⟩) w2 -> Grow A.L w A1.L w2 -> bT A A1 s -> A1.bx s c.op.F = b ->
     zS w2 b0 0 A.H 0∧zS w2 b3 0 (A.bt s) 0∧zS w2 b4 0 (A.bc s) 0∧zT w2 (A.bc s) 0 c.op.kind∧
     zk 113 #[R A.H 0,R (A.bc s) 0,.agg #[I 0,I 0,.slice none 0 0,I 0,I 0]] w2 (bE A1 w2 s (((D.put (af G 1) (mine t)).bS s c.op.F ⟨0,G,false⟩),.fin {}))∧
     zk 151 #[R A.H 0,R (A.bt s) 0,R (A.bc s) 0,R b 0,zu 0,.slice none 0 0] w2 (bE A1 w2 s (((D.put (af G 1) (mine t)).bS s c.op.F ⟨0,G,false⟩).slot s true 0 0))):=by
  intro w2 A1 b r2 g st hbx;have hc2:((D.put (af G 1) (mine t)).bS s c.op.F ⟨0,G,false⟩).calls.getD s none=some c:=hc;have k0:=r2.call hc2 0 rfl;rw[st.bc] at k0;have he:=jf r2 s {} 0 0 0 0 (.slice none 0 0) rfl (.inr ⟨rfl,rfl⟩);rw[st.H,st.bc] at he;have hp':iR ((D.put (af G 1) (mine t)).bS s c.op.F ⟨0,G,false⟩):=⟨hp.n,hp.free,hp.tag,hp.ja⟩
  have hsl:=rR r2 s c hc2 true 0 0 (.slice none 0 0) (dS.nil _ _ _) (.inl rfl) (st.mp.trans hmp) hp'.n hp'.list hp'.tag;have ex:(kp A1 ((D.put (af G 1) (mine t)).bS s c.op.F ⟨0,G,false⟩) s).xo true=R b 0:=by
   show ptr (A1.bx s (((D.put (af G 1) (mine t)).bS s c.op.F ⟨0,G,false⟩).c s).op.F)=_;rw[bu hc2,hbx]
  rw[ex,st.H,st.bt,st.bc] at hsl;exact⟨(B0.grow g).cell,(B3.grow g).cell,(B4.grow g).cell,k0,he,hsl⟩
 clear hR ht hc hv h1 h2 hx hkl hp aL B0 B1 B2 B3 B4 hm aX hb hcs hs1 hm1 hsl hmp;generalize ((D.put (af G 1) (mine t)).bS s c.op.F ⟨0,G,false⟩)=aH at*;generalize mine t=mt at*;generalize af G 1=ws at*;generalize c.op.F=F at*;generalize c.op.kind=kd at*
 by_cases h4:kd=4
 . have HE2:=zH (uI.out.trans (aV h4))
   obtain⟨fa1,fa2,fa3,fa4,fa5⟩:=uA (x:=kd) (c:=4) (ci:=4) (by omega);clear h4;go_enter Tryz.func176,Tryz.ntmps176;go_wp2_with fail;refine wp_region_still_tail 9 (by kernel_rfl) (by kernel_rfl) ?_;simp only[jS,jT,jU,jV]
   repeat still_step
   still_call HS.out
   repeat still_step
   still_call HM.out
   refine wpStill_nil ?_;change wpList _ _ _ _ _ w.drew;generalize w.drew=wd at*;go_wp2_with (go_at_call 45;refine HL.out.mono ?_;rintro e Y ⟨rfl,q1,q2⟩;have g1:=HG.out.trans q2;obtain⟨hf,d1,d3,d4,d5⟩:=HB.out Y q1 g1;have HQ:=zH (zA hf (g1.trans (Grow.drew _ _)));clear q1 q2 g1 hf);refine wp_region_still_tail 7 (by kernel_rfl) (by kernel_rfl) ?_;simp only[jS,jT,jU,jV]
   repeat still_step
   refine wpStill_nil ?_;change wpList _ _ _ _ _ Y.drew;generalize Y.drew=Tt at*;go_wp2_with (first|(go_at_call 177;refine HQ.out.1.mono ?_;rintro e w2 ⟨b,rfl,A1,r2,g2,st,hbx,hvp⟩;obtain⟨d0,d3,d4,k0,he,hs⟩:=HE.out w2 A1 b r2 (HQ.out.2.trans g2) st hbx;have HZ:=zH (zA he (zA (HQ.out.2.trans g2) st));clear r2 g2 st hbx hvp he hs)|(go_at_call 113;refine HZ.out.1.mono ?_;rintro e w3 ⟨A2,v,rfl,p1,p2,p3,p4⟩));go_ret;rw[HE2.out];exact⟨A2,v,rfl,p1,HZ.out.2.1.trans p2,HZ.out.2.2.trans p3,p4⟩
 . have HE2:=zH (uI.out.trans (aR h4))
   obtain⟨fa1,fa2,fa3,fa4,fa5⟩:=rf (x:=kd) (c:=4) (ci:=4) (by omega);clear h4;go_enter Tryz.func176,Tryz.ntmps176;go_wp2_with fail;refine wp_region_still_tail 9 (by kernel_rfl) (by kernel_rfl) ?_;simp only[jS,jT,jU,jV]
   repeat still_step
   still_call HS.out
   repeat still_step
   still_call HM.out
   refine wpStill_nil ?_;change wpList _ _ _ _ _ w.drew;generalize w.drew=wd at*;go_wp2_with (go_at_call 45;refine HL.out.mono ?_;rintro e Y ⟨rfl,q1,q2⟩;have g1:=HG.out.trans q2;obtain⟨hf,d1,d3,d4,d5⟩:=HB.out Y q1 g1;have HQ:=zH (zA hf (g1.trans (Grow.drew _ _)));clear q1 q2 g1 hf);refine wp_region_still_tail 7 (by kernel_rfl) (by kernel_rfl) ?_;simp only[jS,jT,jU,jV]
   repeat still_step
   refine wpStill_nil ?_;change wpList _ _ _ _ _ Y.drew;generalize Y.drew=Tt at*;go_wp2_with (first|(go_at_call 177;refine HQ.out.1.mono ?_;rintro e w2 ⟨b,rfl,A1,r2,g2,st,hbx,hvp⟩;obtain⟨d0,d3,d4,k0,he,hs⟩:=HE.out w2 A1 b r2 (HQ.out.2.trans g2) st hbx;have HZ:=zH (zA hs (zA (HQ.out.2.trans g2) st));clear r2 g2 st hbx hvp he hs)|(go_at_call 151;refine HZ.out.1.mono ?_;rintro e w3 ⟨A2,v,rfl,p1,p2,p3,p4⟩));go_ret;rw[HE2.out];exact⟨A2,v,rfl,p1,HZ.out.2.1.trans p2,HZ.out.2.2.trans p3,p4⟩
theorem Ol (hR:aC A D w) (s:Nat) (t:bL) (ht:D.aj.getD s none=some t) (c:dN) (hc:D.calls.getD s none=some c) (hmp:A.mp=0) (G x1:Nat) (hv:VL D G) (h1:1<=t.id) (h2:t.id<=65535) (hx:t.cell c.op.F=none) (hkl:t.keys.length<1000000) (hp:iR D) (aL:D.count<4000000000000000000) (b0 b1 b2 b3 b4:Nat)
 (B0:aN A.L w b0 (R A.H 0)) (B1:aN A.L w b1 (zu G)) (B2:aN A.L w b2 (zu x1)) (B3:aN A.L w b3 (R (A.bt s) 0)) (B4:aN A.L w b4 (R (A.bc s) 0)):
 zk 176 #[R b0 0,R b1 0,R b2 0,R b3 0,R b4 0] w (kY A w s (D.run s (.claim G x1))):=by
 by_cases hm:D.word (af G 1)=x1
 . exact Dk hR s t ht c hc hmp G x1 hv h1 h2 hx hkl hp aL b0 b1 b2 b3 b4 B0 B1 B2 B3 B4 hm
 . exact Bj hR s t ht c hc hmp G x1 hv h1 h2 hx hkl hp aL b0 b1 b2 b3 b4 B0 B1 B2 B3 B4 hm
theorem Bl (hR:aC A D w) (s:Nat) (t:bL) (ht:D.aj.getD s none=some t) (c:dN) (hc:D.calls.getD s none=some c) (G head:Nat) (Z:c.op.F<64) (x:kP) (hx:t.cell c.op.F=some x) (aL:D.count<4000000000000000000) (b0 b1 b2 b3 b4 b5:Nat)
 (B0:aN A.L w b0 (R A.H 0)) (B1:aN A.L w b1 (R (A.bc s) 0)) (B2:aN A.L w b2 (zu head)) (B3:aN A.L w b3 (zu G)) (B4:aN A.L w b4 (R (A.bt s) 0)) (B5:aN A.L w b5 (.pointer (some ⟨(kp A D s).x,0,none⟩))) (hm:D.word (9+c.op.F)≠head):
 zk 194 #[R b0 0,R b1 0,R b2 0,R b3 0,R b4 0,R b5 0] w (kY A w s (D.run s (.dQ G head))):=by
 have c0:=B0.cell;have c1:=B1.cell;have c2:=B2.cell;have c3:=B3.cell;have e2:=hR.z2;have k1:w.cell? (J (A.bc s) 1)=zt c.op.F:=hR.call hc 1 rfl;have n1:IntKind.i64.wrap (9+(c.op.F:Int))=9+(c.op.F:Int):=by rw[jG];omega
 have HL:=zH (vE hR.drew (9+c.op.F) head G (9+(c.op.F:Int)) (by omega) (by rw[hR.nw];omega) aL);have HG:=zG A.L w;have hpx:(kp A D s).x=A.bx s c.op.F:=by unfold kp;rw[bu hc]
 have aX:D.run s (.dQ G head)=(D.tick,some (.over G)):=by simp[St.run,bu hc,St.cB,hm]
 rw[aX];have hb:(D.word (9+c.op.F)==head)=false:=by simpa using hm
 have hcs:D.cB (9+c.op.F) head G=D.tick:=aR hm;rw[hb,hcs] at HL;have HB:Hid (∀ Y,aC A D.tick Y->Grow A.L w A.L Y->zk 171 #[R A.H 0,R (A.bt s) 0,R (A.bc s) 0,.pointer (some ⟨(kp A D s).x,0,none⟩),zu G] Y (bE A Y s (D.tick,.over G))∧zS Y b0 0 A.H 0∧zS Y b1 0 (A.bc s) 0∧zV Y b3 0 G∧zS Y b4 0 (A.bt s) 0∧Y.cell? (J b5 0)=some (.pointer (some ⟨(kp A D s).x,0,none⟩))):=
  fun Y q g=>⟨xe q s G,(B0.grow g).cell,(B1.grow g).cell,(B3.grow g).cell,(B4.grow g).cell,(B5.grow g).cell⟩
 clear hR ht hc Z hx aL B0 B1 B2 B3 B4 B5 hm aX hb hcs hpx;generalize (kp A D s).x=kx at*;generalize c.op.F=F at*;go_enter Tryz.func194,Tryz.ntmps194;go_wp2_with fail;refine wp_region_still_tail 12 (by kernel_rfl) (by kernel_rfl) ?_;simp only[jS,jT,jU,jV]
 repeat still_step
 refine wpStill_nil ?_;change wpList _ _ _ _ _ w.drew;generalize w.drew=wd at*;go_wp2_with (first|(go_at_call 45;refine HL.out.mono ?_;rintro e Y ⟨rfl,q1,q2⟩;have g1:=HG.out.trans q2;obtain⟨hf,d0,d1,d3,d4,d5⟩:=HB.out Y q1 g1;have HQ:=zH (zA hf g1);clear q1 q2 g1 hf)|(go_at_call 171;refine HQ.out.1.mono ?_;rintro e w2 ⟨A2,v,rfl,p1,p2,p3,p4⟩));go_ret;exact⟨A2,v,rfl,p1,HQ.out.2.trans p2,p3,p4⟩
theorem Om (l:List (Nat×kP)) (F:Nat) (x y:kP):upd (upd l F x) F y=upd l F y:=by
 unfold upd;rw[List.map_map];refine List.map_congr_left fun p hp=>?_
 by_cases h:p.1=F<;>simp[h]
theorem Bn (l:List (Nat×kP)) (F:Nat) (x y:kP) (h:l.lookup F=some x):(upd l F y).lookup F=some y:=by
 induction l with
 |nil=>cases h
 |cons a l ih=>
  obtain⟨k,z⟩:=a
  by_cases Z:F=k
  . subst Z
    unfold upd;simp[List.lookup]
  . rw[List.lookup_cons,beq_false_of_ne Z] at h
    have e:upd ((k,z)::l) F y=(k,z)::upd l F y:=by unfold upd;simp[Ne.symm Z]
    rw[e,List.lookup_cons,beq_false_of_ne Z];exact ih h
theorem Dl (hR:aC A D w) (s:Nat) (t:bL) (ht:D.aj.getD s none=some t) (c:dN) (hc:D.calls.getD s none=some c) (G head:Nat) (Z:c.op.F<64) (x:kP) (hx:t.cell c.op.F=some x) (aL:D.count<4000000000000000000) (b0 b1 b2 b3 b4 b5:Nat)
 (B0:aN A.L w b0 (R A.H 0)) (B1:aN A.L w b1 (R (A.bc s) 0)) (B2:aN A.L w b2 (zu head)) (B3:aN A.L w b3 (zu G)) (B4:aN A.L w b4 (R (A.bt s) 0)) (B5:aN A.L w b5 (.pointer (some ⟨(kp A D s).x,0,none⟩))) (hm:D.word (9+c.op.F)=head):
 zk 194 #[R b0 0,R b1 0,R b2 0,R b3 0,R b4 0,R b5 0] w (kY A w s (D.run s (.dQ G head))):=by
 have c0:=B0.cell;have c1:=B1.cell;have c2:=B2.cell;have c3:=B3.cell;have e2:=hR.z2;have k1:w.cell? (J (A.bc s) 1)=zt c.op.F:=hR.call hc 1 rfl;have n1:IntKind.i64.wrap (9+(c.op.F:Int))=9+(c.op.F:Int):=by rw[jG];omega
 have HL:=zH (vE hR.drew (9+c.op.F) head G (9+(c.op.F:Int)) (by omega) (by rw[hR.nw];omega) aL);have HG:=zG A.L w;have hpx:(kp A D s).x=A.bx s c.op.F:=by unfold kp;rw[bu hc]
 have aX:D.run s (.dQ G head)=(((D.put (9+c.op.F) G).gu s c.op.F {(D.put (9+c.op.F) G).x s c.op.F with own:=G,there:=true}),some (.fin {})):=by simp[St.run,bu hc,St.cB,hm]
 rw[aX];have hb:(D.word (9+c.op.F)==head)=true:=by simpa using hm
 have hcs:D.cB (9+c.op.F) head G=D.put (9+c.op.F) G:=aV hm;rw[hb,hcs] at HL;rw[hpx] at B5
 have HE : Hid (∀ Y, aC A (D.put (9 + c.op.F) G) Y -> Grow A.L w A.L Y ->
     zV Y (A.bx s c.op.F) 0 x.own∧Y.frozen? (J (A.bx s c.op.F) 0)=false∧zB Y (A.bx s c.op.F) 2 x.there∧Y.frozen? (J (A.bx s c.op.F) 2)=false∧zV Y b3 0 G∧zS Y b5 0 (A.bx s c.op.F) 0∧(Y.setCell (J (A.bx s c.op.F) 0) (zu G)).cell? (J b5 0)=zs (A.bx s c.op.F) 0∧(Y.setCell (J (A.bx s c.op.F) 0) (zu G)).cell? (J b3 0)=zv G∧
     ∀ ws,((Y.setCell (J (A.bx s c.op.F) 0) (zu G)).setCell (J (A.bx s c.op.F) 2) (.bool true)).drew=ws->zS ws b0 0 A.H 0∧zS ws b1 0 (A.bc s) 0∧
     zk 113 #[R A.H 0,R (A.bc s) 0,.agg #[I 0,I 0,.slice none 0 0,I 0,I 0]] ws (bE A ws s (((D.put (9+c.op.F) G).gu s c.op.F {(D.put (9+c.op.F) G).x s c.op.F with own:=G,there:=true}),.fin {}))∧
     Grow A.L w A.L ws):=by
  intro Y r1 g1;have ht1:(D.put (9+c.op.F) G).aj.getD s none=some t:=ht;obtain⟨a0,a1,a2⟩:=r1.Fb ht1 hx;obtain⟨r3,g3⟩:=r1.uD ht1 hx {x with own:=G} 0 (zu G) rfl;refine⟨a0,r1.I6 ht1 hx 0,a2,r1.I6 ht1 hx 2,(B3.grow g1).cell,(B5.grow g1).cell,(B5.grow (g1.trans g3)).cell,(B3.grow (g1.trans g3)).cell,?_⟩;rintro ws rfl;have ht3:((D.put (9+c.op.F) G).bK s {t with cells:=upd t.cells c.op.F {x with own:=G}}).aj.getD s none=some {t with cells:=upd t.cells c.op.F {x with own:=G}}:=by rw[dC (dB ht1),aV rfl]
  have hx3:({t with cells:=upd t.cells c.op.F {x with own:=G}}:bL).cell c.op.F=some {x with own:=G}:=Bn _ _ _ _ hx;obtain⟨r4,g4⟩:=r3.uD ht3 hx3 {x with own:=G,there:=true} 2 (.bool true) rfl;have eS:((D.put (9+c.op.F) G).bK s {t with cells:=upd t.cells c.op.F {x with own:=G}}).bK s {t with cells:=upd (upd t.cells c.op.F {x with own:=G}) c.op.F {x with own:=G,there:=true}}=((D.put (9+c.op.F) G).gu s c.op.F {(D.put (9+c.op.F) G).x s c.op.F with own:=G,there:=true}):=by
   unfold St.gu St.x;rw[cK ht1,hx,Om];unfold St.bK;simp
  have r5:=r4.drew;rw[show (((D.put (9+c.op.F) G).bK s {t with cells:=upd t.cells c.op.F {x with own:=G}}).bK s {({t with cells:=upd t.cells c.op.F {x with own:=G}}:bL) with cells:=upd ({t with cells:=upd t.cells c.op.F {x with own:=G}}:bL).cells c.op.F {x with own:=G,there:=true}})=((D.put (9+c.op.F) G).gu s c.op.F {(D.put (9+c.op.F) G).x s c.op.F with own:=G,there:=true}) from eS] at r5;have g5:=((g1.trans g3).trans g4).trans (Grow.drew _ _);have he:=jf r5 s {} 0 0 0 0 (.slice none 0 0) rfl (.inr ⟨rfl,rfl⟩);exact⟨(B0.grow g5).cell,(B1.grow g5).cell,he,g5⟩
 clear hR ht hc Z hx aL B0 B1 B2 B3 B4 B5 hm aX hb hcs hpx;generalize ((D.put (9+c.op.F) G).gu s c.op.F {(D.put (9+c.op.F) G).x s c.op.F with own:=G,there:=true})=aD at*;generalize A.bx s c.op.F=kx at*;generalize c.op.F=F at*;go_enter Tryz.func194,Tryz.ntmps194;go_wp2_with fail;refine wp_region_still_tail 12 (by kernel_rfl) (by kernel_rfl) ?_;simp only[jS,jT,jU,jV]
 repeat still_step
 refine wpStill_nil ?_;change wpList _ _ _ _ _ w.drew;generalize w.drew=wd at*;go_wp2_with (go_at_call 45;refine HL.out.mono ?_;rintro e Y ⟨rfl,q1,q2⟩;have g1:=HG.out.trans q2;obtain⟨a0,z0,a2,z2,d3,d5,f5,f3,hz⟩:=HE.out Y q1 g1;have HZ:=zH hz;clear q1 q2 g1 hz)
 go_region
 generalize hws:World.drew _=ws;obtain⟨d0,d1,hf,gg⟩:=HZ.out ws hws;have HF:=zH (zA hf gg);clear hf gg hws a0 z0 a2 z2 d3 d5 f5 f3;go_wp2_with (go_at_call 113;refine HF.out.1.mono ?_;rintro e w3 ⟨A2,v,rfl,p1,p2,p3,p4⟩);go_ret;exact⟨A2,v,rfl,p1,HF.out.2.trans p2,p3,p4⟩
theorem Oo (hR:aC A D w) (s:Nat) (t:bL) (ht:D.aj.getD s none=some t) (c:dN) (hc:D.calls.getD s none=some c) (G head:Nat) (Z:c.op.F<64) (x:kP) (hx:t.cell c.op.F=some x) (aL:D.count<4000000000000000000) (b0 b1 b2 b3 b4 b5:Nat)
 (B0:aN A.L w b0 (R A.H 0)) (B1:aN A.L w b1 (R (A.bc s) 0)) (B2:aN A.L w b2 (zu head)) (B3:aN A.L w b3 (zu G)) (B4:aN A.L w b4 (R (A.bt s) 0)) (B5:aN A.L w b5 (.pointer (some ⟨(kp A D s).x,0,none⟩))):
 zk 194 #[R b0 0,R b1 0,R b2 0,R b3 0,R b4 0,R b5 0] w (kY A w s (D.run s (.dQ G head))):=by
 by_cases hm:D.word (9+c.op.F)=head
 . exact Dl hR s t ht c hc G head Z x hx aL b0 b1 b2 b3 b4 b5 B0 B1 B2 B3 B4 B5 hm
 . exact Bl hR s t ht c hc G head Z x hx aL b0 b1 b2 b3 b4 b5 B0 B1 B2 B3 B4 B5 hm
def rU (D:St) (s:Nat) (t:bL) (x:kP) (kind:Nat):St×K:=
 if x.there∧kind=2 then (D,.fin {e:=12}) else if x.there=false∧kind≠2 then (D,.fin {e:=11}) else if x.own=0 then D.slot s true 0 0 else (D,.again (if kind=4 then mine t else ever))
theorem Dm (hR:aC A D w) (s:Nat) (t:bL) (ht:D.aj.getD s none=some t) (c:dN) (hc:D.calls.getD s none=some c) (hmp:A.mp=0) (x:kP) (hx:t.cell c.op.F=some x) (h1:1<=t.id) (h2:t.id<=65535) (hp:iR D):
 zk 129 #[R A.H 0,R (A.bt s) 0,R (A.bc s) 0,R (A.bx s c.op.F) 0] w (bE A w s (rU D s t x c.op.kind)):=by
 obtain⟨r3,g3,f0,f1,f2⟩:=je hR #[R A.H 0] 32 #[R (A.bc s) 0] 105 #[R (A.bx s c.op.F) 0] 223;have c0:=f0.cell 0 (v:=R A.H 0) rfl;have c1:=f1.cell 0 (v:=R (A.bc s) 0) rfl;have c2:=f2.cell 0 (v:=R (A.bx s c.op.F) 0) rfl;obtain⟨a0,a1,a2⟩:=r3.Fb ht hx;have k0:=r3.call hc 0 (v:=I c.op.kind) rfl;have VS:=zH (jf r3 s {e:=12} 12 0 0 0 (.slice none 0 0) rfl (.inr ⟨rfl,rfl⟩));have VT:=zH (jf r3 s {e:=11} 11 0 0 0 (.slice none 0 0) rfl (.inr ⟨rfl,rfl⟩));have hsl:zk 151 #[R A.H 0,R (A.bt s) 0,R (A.bc s) 0,R (A.bx s c.op.F) 0,zu 0,.slice none 0 0] (((w.alloc (.cells #[R A.H 0] 32)).alloc (.cells #[R (A.bc s) 0] 105)).alloc (.cells #[R (A.bx s c.op.F) 0] 223)) (bE A (((w.alloc (.cells #[R A.H 0] 32)).alloc (.cells #[R (A.bc s) 0] 105)).alloc (.cells #[R (A.bx s c.op.F) 0] 223)) s (D.slot s true 0 0)):=by
  have h:=rR r3 s c hc true 0 0 (.slice none 0 0) (dS.nil _ _ _) (.inl rfl) hmp hp.n hp.list hp.tag;have ex:(kp A D s).xo true=R (A.bx s c.op.F) 0:=by show ptr (A.bx s (D.c s).op.F)=_;rw[bu hc]
  rw[ex] at h;exact h
 have XZ:=zH hsl;have HG:=zH g3;have HM:Hid (∀ E,aC A D E->zk 126 #[R (A.bt s) 0] E fun e Y=>e=.returned (zu ((mine t:Nat):Int))∧E=Y):=fun E r=>qz r s t ht h1 h2
 have HF:Hid (∀ E,zk 127 #[] E fun e Y=>e=.returned (zu 2305843009213693952)∧E=Y):=fun E=>Word.qp E
 obtain⟨r4,g4,f4⟩:=dA r3 #[zu 2305843009213693952] 25;have z3:(((w.alloc (.cells #[R A.H 0] 32)).alloc (.cells #[R (A.bc s) 0] 105)).alloc (.cells #[R (A.bx s c.op.F) 0] 223)).heap.size=w.heap.size+1+1+1:=by simp
 rw[z3] at f4;have c4:=f4.cell 0 (v:=zu 2305843009213693952) rfl;have nz:=f4.frozen 0;have k4:=r4.call hc 0 (v:=I c.op.kind) rfl;have c14:=(f1.grow g4).cell 0 (v:=R (A.bc s) 0) rfl;have YU:Hid (∀ n:Nat,aC A D ((((w.alloc (.cells #[R A.H 0] 32)).alloc (.cells #[R (A.bc s) 0] 105)).alloc (.cells #[R (A.bx s c.op.F) 0] 223)).alloc (.cells #[zu n] 25))∧Grow A.L (((w.alloc (.cells #[R A.H 0] 32)).alloc (.cells #[R (A.bc s) 0] 105)).alloc (.cells #[R (A.bx s c.op.F) 0] 223)) A.L ((((w.alloc (.cells #[R A.H 0] 32)).alloc (.cells #[R (A.bc s) 0] 105)).alloc (.cells #[R (A.bx s c.op.F) 0] 223)).alloc (.cells #[zu n] 25))∧Fix A.L ((((w.alloc (.cells #[R A.H 0] 32)).alloc (.cells #[R (A.bc s) 0] 105)).alloc (.cells #[R (A.bx s c.op.F) 0] 223)).alloc (.cells #[zu n] 25)) (w.heap.size+1+1+1) (.cells #[zu n] 25)):=fun n=>by
  obtain⟨k1,k2,k3⟩:=dA r3 #[zu n] 25;rw[z3] at k3;exact⟨k1,k2,k3⟩
 have HZ:=zH (zA r4 (zA (g3.trans g4) (zA f0.box (zA f1.box (zA f2.box f4)))));have hkx:(kp A D s).x=A.bx s c.op.F:=by show A.bx s (D.c s).op.F=_;rw[bu hc]
 have VU:=zH hkx;have VV:Hid (aN A.L (((w.alloc (.cells #[R A.H 0] 32)).alloc (.cells #[R (A.bc s) 0] 105)).alloc (.cells #[R (A.bx s c.op.F) 0] 223)) w.heap.size (R A.H 0)∧aN A.L (((w.alloc (.cells #[R A.H 0] 32)).alloc (.cells #[R (A.bc s) 0] 105)).alloc (.cells #[R (A.bx s c.op.F) 0] 223)) (w.heap.size+1) (R (A.bc s) 0)∧aN A.L (((w.alloc (.cells #[R A.H 0] 32)).alloc (.cells #[R (A.bc s) 0] 105)).alloc (.cells #[R (A.bx s c.op.F) 0] 223)) (w.heap.size+1+1) (R (A.bx s c.op.F) 0)∧Grow A.L (((w.alloc (.cells #[R A.H 0] 32)).alloc (.cells #[R (A.bc s) 0] 105)).alloc (.cells #[R (A.bx s c.op.F) 0] 223)) A.L ((((w.alloc (.cells #[R A.H 0] 32)).alloc (.cells #[R (A.bc s) 0] 105)).alloc (.cells #[R (A.bx s c.op.F) 0] 223)).alloc (.cells #[zu 2305843009213693952] 25))):=⟨f0.box,f1.box,f2.box,g4⟩
 have HR4:=zH r4;unfold rU;clear hR ht hc hmp hx h1 h2 hp r3 g3 f0 f1 f2 hsl r4 g4 f4 z3 hkx;generalize mine t=mt at*;generalize c.op.kind=kd at*;generalize x.own=ow at*;generalize x.old=ol at*;generalize x.there=th at*
 cases th with
 |true=>
  by_cases k2:kd=2
  . rw[aV ⟨rfl,k2⟩]
    obtain⟨Tw,Tx,Ty,Tz,TG⟩:=uA (x:=kd) (c:=2) (ci:=2) (by omega);clear k2;go_enter Tryz.func129,Tryz.ntmps129;go_wp2_with (go_at_call 113;refine VS.out.mono ?_;rintro e w4 ⟨A2,v,rfl,p1,p2,p3,p4⟩);go_ret;exact⟨A2,v,rfl,p1,HG.out.trans p2,p3,p4⟩
  . rw[aR (fun h=>k2 h.2),aR (fun h=>by cases h.1)]
    obtain⟨Tw,Tx,Ty,Tz,TG⟩:=rf (x:=kd) (c:=2) (ci:=2) (by omega)
    by_cases ho:ow=0
    . rw[aV ho]
      obtain⟨VW,VX,VY,VZ,V3⟩:=uA (x:=ow) (c:=0) (ci:=0) (by omega);clear ho;go_enter Tryz.func129,Tryz.ntmps129;go_wp2_with (go_at_call 151;refine XZ.out.mono ?_;rintro e w4 ⟨A2,v,rfl,p1,p2,p3,p4⟩);go_ret;exact⟨A2,v,rfl,p1,HG.out.trans p2,p3,p4⟩
    . rw[aR ho]
      obtain⟨VW,VX,VY,VZ,V3⟩:=rf (x:=ow) (c:=0) (ci:=0) (by omega);clear ho
      by_cases Vm:kd=4
      . rw[aV Vm]
        obtain⟨Vn,Vo,Vp,Vq,Ya⟩:=uA (x:=kd) (c:=4) (ci:=4) (by omega);clear Vm k2;go_enter Tryz.func129,Tryz.ntmps129;go_wp2_with (first|(go_at_call 127;refine (HF.out _).mono ?_;rintro e E ⟨rfl,rfl⟩)|(go_at_call 126;refine (HM.out _ HR4.out).mono ?_;rintro e E ⟨rfl,rfl⟩));go_ret;obtain⟨r4,g4,f0,f1,f2,f4⟩:=HZ.out;obtain⟨b0,b1,b2,gg⟩:=VV.out;obtain⟨r5,g5,f5⟩:=YU.out mt;refine⟨A,_,rfl,r5,HG.out.trans g5,bT.refl _ _,_,_,_,_,rfl,b0.grow g5,?_,f5.box,b1.grow g5⟩;show aN _ _ _ (ptr (kp A D s).x);rw[VU.out];exact b2.grow g5
      . rw[aR Vm]
        obtain⟨Vn,Vo,Vp,Vq,Ya⟩:=rf (x:=kd) (c:=4) (ci:=4) (by omega);clear Vm k2;go_enter Tryz.func129,Tryz.ntmps129;go_wp2_with (go_at_call 127;refine (HF.out _).mono ?_;rintro e E ⟨rfl,rfl⟩);go_ret;obtain⟨r4,g4,f0,f1,f2,f4⟩:=HZ.out;obtain⟨b0,b1,b2,gg⟩:=VV.out;refine⟨A,_,rfl,r4,g4,bT.refl _ _,_,_,_,_,rfl,b0.grow gg,?_,f4.box,b1.grow gg⟩;show aN _ _ _ (ptr (kp A D s).x);rw[VU.out];exact b2.grow gg
 |false=>
  by_cases k2:kd=2
  . rw[aR (fun h=>by cases h.1),aR (fun h=>h.2 k2)]
    obtain⟨Tw,Tx,Ty,Tz,TG⟩:=uA (x:=kd) (c:=2) (ci:=2) (by omega);obtain⟨Vn,Vo,Vp,Vq,Ya⟩:=rf (x:=kd) (c:=4) (ci:=4) (by omega)
    by_cases ho:ow=0
    . rw[aV ho]
      obtain⟨VW,VX,VY,VZ,V3⟩:=uA (x:=ow) (c:=0) (ci:=0) (by omega);clear ho;go_enter Tryz.func129,Tryz.ntmps129;go_wp2_with (go_at_call 151;refine XZ.out.mono ?_;rintro e w4 ⟨A2,v,rfl,p1,p2,p3,p4⟩);go_ret;exact⟨A2,v,rfl,p1,HG.out.trans p2,p3,p4⟩
    . rw[aR ho]
      obtain⟨VW,VX,VY,VZ,V3⟩:=rf (x:=ow) (c:=0) (ci:=0) (by omega);clear ho;rw[aR (by omega)];clear k2;go_enter Tryz.func129,Tryz.ntmps129;go_wp2_with (go_at_call 127;refine (HF.out _).mono ?_;rintro e E ⟨rfl,rfl⟩);go_ret;obtain⟨r4,g4,f0,f1,f2,f4⟩:=HZ.out;obtain⟨b0,b1,b2,gg⟩:=VV.out;refine⟨A,_,rfl,r4,g4,bT.refl _ _,_,_,_,_,rfl,b0.grow gg,?_,f4.box,b1.grow gg⟩;show aN _ _ _ (ptr (kp A D s).x);rw[VU.out];exact b2.grow gg
  . rw[aR (fun h=>by cases h.1),aV ⟨rfl,k2⟩]
    obtain⟨Tw,Tx,Ty,Tz,TG⟩:=rf (x:=kd) (c:=2) (ci:=2) (by omega);clear k2;go_enter Tryz.func129,Tryz.ntmps129;go_wp2_with (go_at_call 113;refine VT.out.mono ?_;rintro e w4 ⟨A2,v,rfl,p1,p2,p3,p4⟩);go_ret;exact⟨A2,v,rfl,p1,HG.out.trans p2,p3,p4⟩
theorem Dp (hR:aC A D w) (s:Nat) (t:bL) (ht:D.aj.getD s none=some t) (c:dN) (hc:D.calls.getD s none=some c) (aA:Nat) (x:kP) (hx:t.cell c.op.F=some x) (hv:VL D x.own) (Z:c.op.kind=4) (aL:D.count<4000000000000000000) (b0 b1 b2 b3:Nat)
 (B0:aN A.L w b0 (R A.H 0)) (B1:aN A.L w b1 (.pointer (some ⟨(kp A D s).x,0,none⟩))) (B2:aN A.L w b2 (zu aA)) (B3:aN A.L w b3 (R (A.bc s) 0)):
 zk 152 #[R b0 0,R b1 0,R b2 0,R b3 0] w (kY A w s (D.run s (.again aA))):=by
 have hpx:(kp A D s).x=A.bx s c.op.F:=by unfold kp;rw[bu hc]
 rw[hpx] at B1;have c0:=B0.cell;have c1:=B1.cell;have c2:=B2.cell;have hsl:=hR.sl;obtain⟨a0,_,_⟩:=hR.Fb ht hx;have e2:=hR.z2;have hs1:zk 85 #[zu x.own,I 1] w.drew fun e E=>e=.returned (I ((af x.own 1:Nat):Int))∧E=w.drew:=flip (eQ x.own 1 1 rfl hv.lo (by have:=hv.hi;omega) hv.u (by omega) w.drew)
 have HS:=zH hs1;have HL:=zH (fT hR.drew (af x.own 1) aA (dO hR hv.lo hv.hi (by omega)) aL);have HG:=zG A.L w;have e1:(D.put (af x.own 1) aA).c s=c:=bu hc;have aX:D.run s (.again aA)=(((D.put (af x.own 1) aA).gu s c.op.F {x with there:=false}),some (.fin {})):=by
  have e0:D.c s=c:=bu hc;have ex:D.x s c.op.F=x:=by unfold St.x;rw[cK ht,hx];rfl
  have e3:∀ y,((D.put (af x.own 1) aA).gu s c.op.F y).c s=c:=fun y=>bu hc
  have hb:(c.op.kind !=4)=false:=by simp[Z]
  simp only[St.run,e0,ex,e1,hb,e3,if_true,if_false,Bool.false_eq_true]
 rw[aX];have ht1:(D.put (af x.own 1) aA).aj.getD s none=some t:=ht;have hc1:(D.put (af x.own 1) aA).calls.getD s none=some c:=hc;have V4:VL (D.put (af x.own 1) aA) x.own:=⟨hv.lo,hv.hi,hv.u⟩
 have HB : Hid (∀ Y, aC A (D.put (af x.own 1) aA) Y -> Grow A.L w A.L Y -> zS Y b1 0 (A.bx s c.op.F) 0 ∧ zS Y b3 0 (A.bc s) 0 ∧ zT Y (A.bc s) 0 (c.op.kind : Int) ∧ zB Y (A.bx s c.op.F) 2 x.there ∧ Y.frozen? (J (A.bx s c.op.F) 2) = false ∧
     ∀ ws,(Y.setCell (J (A.bx s c.op.F) 2) (.bool false)).drew=ws->aC A ((D.put (af x.own 1) aA).gu s c.op.F {x with there:=false}) ws∧Grow A.L w A.L ws∧zS ws b0 0 A.H 0∧zS ws b1 0 (A.bx s c.op.F) 0∧zS ws b3 0 (A.bc s) 0∧zV ws (A.bx s c.op.F) 0 x.own∧zB ws (A.bx s c.op.F) 2 false∧zT ws (A.bc s) 3 c.op.value):=by
  intro Y q g;obtain⟨_,_,a2⟩:=q.Fb ht1 hx;refine⟨(B1.grow g).cell,(B3.grow g).cell,q.call hc1 0 rfl,a2,q.I6 ht1 hx 2,?_⟩;rintro ws rfl;obtain⟨r3,g3⟩:=q.uD ht1 hx {x with there:=false} 2 (.bool false) rfl;have eS:(D.put (af x.own 1) aA).bK s {t with cells:=upd t.cells c.op.F {x with there:=false}}=((D.put (af x.own 1) aA).gu s c.op.F {x with there:=false}):=by unfold St.gu;rw[cK ht1]
  rw[eS] at r3;have ht3:((D.put (af x.own 1) aA).gu s c.op.F {x with there:=false}).aj.getD s none=some {t with cells:=upd t.cells c.op.F {x with there:=false}}:=by rw[<-eS,dC (dB ht1),aV rfl]
  have hx3:({t with cells:=upd t.cells c.op.F {x with there:=false}}:bL).cell c.op.F=some {x with there:=false}:=Bn _ _ _ _ hx;have hc3:((D.put (af x.own 1) aA).gu s c.op.F {x with there:=false}).calls.getD s none=some c:=hc;have r4:=r3.drew;have g4:=(g.trans g3).trans (Grow.drew _ _);obtain⟨y0,_,y2⟩:=r4.Fb ht3 hx3;exact⟨r4,g4,(B0.grow g4).cell,(B1.grow g4).cell,(B3.grow g4).cell,y0,y2,r4.call hc3 3 rfl⟩
 have HV:Hid (∀ ws,aC A ((D.put (af x.own 1) aA).gu s c.op.F {x with there:=false}) ws->zk 113 #[R A.H 0,R (A.bc s) 0,.agg #[I 0,I 0,.slice none 0 0,I 0,I 0]] ws (bE A ws s (((D.put (af x.own 1) aA).gu s c.op.F {x with there:=false}),.fin {}))):=fun ws q=>jf q s {} 0 0 0 0 (.slice none 0 0) rfl (.inr ⟨rfl,rfl⟩)
 clear hR ht hc hx hv aL B0 B1 B2 B3 aX hs1 e1 ht1 hc1 V4 hpx hsl;generalize ((D.put (af x.own 1) aA).gu s c.op.F {x with there:=false})=YV at*;generalize A.bx s c.op.F=kx at*;generalize af x.own 1=V5 at*;generalize x.own=ow at*;generalize x.there=th at*;generalize c.op.kind=kd at*;generalize c.op.value=va at*;obtain⟨Tw,Tx,Ty,Tz,TG⟩:=uA (x:=kd) (c:=4) (ci:=4) (by omega);clear Z;go_enter Tryz.func152,Tryz.ntmps152;go_wp2_with fail;refine wp_region_still_tail 10 (by kernel_rfl) (by kernel_rfl) ?_;simp only[jS,jT,jU,jV]
 repeat still_step
 still_call HS.out
 repeat still_step
 refine wpStill_nil ?_;change wpList _ _ _ _ _ w.drew;generalize w.drew=wd at*;go_wp2_with (go_at_call 47;refine HL.out.mono ?_;rintro e Y ⟨rfl,q1,q2⟩;have g1:=HG.out.trans q2;obtain⟨d1,d3,k0,a2,z2,hz⟩:=HB.out Y q1 g1;have HZ:=zH hz;clear q1 q2 g1 hz)
 go_region
 generalize hws:World.drew _=ws;obtain⟨r2,g2,d0',d1',YW,y0,y2,k3⟩:=HZ.out ws hws;have HQ:=zH (zA r2 g2);clear r2 g2 hws d1 d3 k0 a2 z2;go_wp2_with (go_at_call 113;refine (HV.out _ HQ.out.1).mono ?_;rintro e w3 ⟨A2,v,rfl,p1,p2,p3,p4⟩);go_ret;exact⟨A2,v,rfl,p1,HQ.out.2.trans p2,p3,p4⟩
theorem Dq (hR:aC A D w) (s:Nat) (t:bL) (ht:D.aj.getD s none=some t) (c:dN) (hc:D.calls.getD s none=some c) (aA:Nat) (x:kP) (hx:t.cell c.op.F=some x) (hv:VL D x.own) (Z:c.op.kind≠4) (aL:D.count<4000000000000000000) (b0 b1 b2 b3:Nat)
 (B0:aN A.L w b0 (R A.H 0)) (B1:aN A.L w b1 (.pointer (some ⟨(kp A D s).x,0,none⟩))) (B2:aN A.L w b2 (zu aA)) (B3:aN A.L w b3 (R (A.bc s) 0)):
 zk 152 #[R b0 0,R b1 0,R b2 0,R b3 0] w (kY A w s (D.run s (.again aA))):=by
 have hpx:(kp A D s).x=A.bx s c.op.F:=by unfold kp;rw[bu hc]
 rw[hpx] at B1;have c0:=B0.cell;have c1:=B1.cell;have c2:=B2.cell;have hsl:=hR.sl;obtain⟨a0,_,_⟩:=hR.Fb ht hx;have e2:=hR.z2;have hs1:zk 85 #[zu x.own,I 1] w.drew fun e E=>e=.returned (I ((af x.own 1:Nat):Int))∧E=w.drew:=flip (eQ x.own 1 1 rfl hv.lo (by have:=hv.hi;omega) hv.u (by omega) w.drew)
 have HS:=zH hs1;have HL:=zH (fT hR.drew (af x.own 1) aA (dO hR hv.lo hv.hi (by omega)) aL);have HG:=zG A.L w;have e1:(D.put (af x.own 1) aA).c s=c:=bu hc;have aX:D.run s (.again aA)=(({((D.put (af x.own 1) aA).gu s c.op.F {x with there:=true}) with values:=((D.put (af x.own 1) aA).gu s c.op.F {x with there:=true}).values.set (ag x.own) ((((D.put (af x.own 1) aA).gu s c.op.F {x with there:=true}).values.getD (ag x.own) (0,0)).1,c.op.value)}:St),some (.fin {})):=by
  have e0:D.c s=c:=bu hc;have ex:D.x s c.op.F=x:=by unfold St.x;rw[cK ht,hx];rfl
  have e3:∀ y,((D.put (af x.own 1) aA).gu s c.op.F y).c s=c:=fun y=>bu hc
  have hb:(c.op.kind !=4)=true:=by simp[Z]
  simp only[St.run,e0,ex,e1,hb,e3,if_true,if_false,Bool.false_eq_true]
 rw[aX];have ht1:(D.put (af x.own 1) aA).aj.getD s none=some t:=ht;have hc1:(D.put (af x.own 1) aA).calls.getD s none=some c:=hc;have V4:VL (D.put (af x.own 1) aA) x.own:=⟨hv.lo,hv.hi,hv.u⟩
 have HB : Hid (∀ Y, aC A (D.put (af x.own 1) aA) Y -> Grow A.L w A.L Y -> zS Y b1 0 (A.bx s c.op.F) 0 ∧ zS Y b3 0 (A.bc s) 0 ∧ zT Y (A.bc s) 0 (c.op.kind : Int) ∧ zB Y (A.bx s c.op.F) 2 x.there ∧ Y.frozen? (J (A.bx s c.op.F) 2) = false ∧
     ∀ ws,(Y.setCell (J (A.bx s c.op.F) 2) (.bool true)).drew=ws->aC A ((D.put (af x.own 1) aA).gu s c.op.F {x with there:=true}) ws∧Grow A.L w A.L ws∧zS ws b0 0 A.H 0∧zS ws b1 0 (A.bx s c.op.F) 0∧zS ws b3 0 (A.bc s) 0∧zV ws (A.bx s c.op.F) 0 x.own∧zB ws (A.bx s c.op.F) 2 true∧zT ws (A.bc s) 3 c.op.value):=by
  intro Y q g;obtain⟨_,_,a2⟩:=q.Fb ht1 hx;refine⟨(B1.grow g).cell,(B3.grow g).cell,q.call hc1 0 rfl,a2,q.I6 ht1 hx 2,?_⟩;rintro ws rfl;obtain⟨r3,g3⟩:=q.uD ht1 hx {x with there:=true} 2 (.bool true) rfl;have eS:(D.put (af x.own 1) aA).bK s {t with cells:=upd t.cells c.op.F {x with there:=true}}=((D.put (af x.own 1) aA).gu s c.op.F {x with there:=true}):=by unfold St.gu;rw[cK ht1]
  rw[eS] at r3;have ht3:((D.put (af x.own 1) aA).gu s c.op.F {x with there:=true}).aj.getD s none=some {t with cells:=upd t.cells c.op.F {x with there:=true}}:=by rw[<-eS,dC (dB ht1),aV rfl]
  have hx3:({t with cells:=upd t.cells c.op.F {x with there:=true}}:bL).cell c.op.F=some {x with there:=true}:=Bn _ _ _ _ hx;have hc3:((D.put (af x.own 1) aA).gu s c.op.F {x with there:=true}).calls.getD s none=some c:=hc;have r4:=r3.drew;have g4:=(g.trans g3).trans (Grow.drew _ _);obtain⟨y0,_,y2⟩:=r4.Fb ht3 hx3;exact⟨r4,g4,(B0.grow g4).cell,(B1.grow g4).cell,(B3.grow g4).cell,y0,y2,r4.call hc3 3 rfl⟩
 have HV : Hid (∀ ws, aC A ((D.put (af x.own 1) aA).gu s c.op.F { x with there := true }) ws -> Grow A.L w A.L ws -> zk 87 #[R A.H 0, zu (x.own : Int)] ws.drew (fun e E => e = .returned (.pointer (some ⟨A.bv, 2 * ag x.own, none⟩)) ∧ E = ws.drew) ∧ ws.drew.cell? ⟨A.bv, 2 * ag x.own + 1, none⟩ = some (I ((((D.put (af x.own 1) aA).gu s c.op.F { x with there := true }).values.getD (ag x.own) (0, 0)).2 : Int)) ∧ ws.drew.frozen? ⟨A.bv, 2 * ag x.own + 1, none⟩ = false ∧
     ∀ wz,ws.drew.setCell ⟨A.bv,2*ag x.own+1,none⟩ (I c.op.value)=wz->zS wz b0 0 A.H 0∧zS wz b3 0 (A.bc s) 0∧Grow A.L w A.L wz∧zk 113 #[R A.H 0,R (A.bc s) 0,.agg #[I 0,I 0,.slice none 0 0,I 0,I 0]] wz (bE A wz s (({((D.put (af x.own 1) aA).gu s c.op.F {x with there:=true}) with values:=((D.put (af x.own 1) aA).gu s c.op.F {x with there:=true}).values.set (ag x.own) ((((D.put (af x.own 1) aA).gu s c.op.F {x with there:=true}).values.getD (ag x.own) (0,0)).1,c.op.value)}:St),.fin {}))):=by
  intro ws q g;have hi:ag x.own<((D.put (af x.own 1) aA).gu s c.op.F {x with there:=true}).aF:=iY (D:=D) hv;refine⟨flip (nA q.drew x.own hv.lo hv.hi hv.u),(q.drew.val hi).2,q.drew.Tm _,?_⟩;rintro wz rfl;obtain⟨r5,g5⟩:=q.drew.QC hi c.op.value;have g6:=(g.trans (Grow.drew _ _)).trans g5;exact⟨(B0.grow g6).cell,(B3.grow g6).cell,g6,jf r5 s {} 0 0 0 0 (.slice none 0 0) rfl (.inr ⟨rfl,rfl⟩)⟩
 clear hR ht hc hx hv aL B0 B1 B2 B3 aX hs1 e1 ht1 hc1 V4 hpx hsl;generalize ({((D.put (af x.own 1) aA).gu s c.op.F {x with there:=true}) with values:=((D.put (af x.own 1) aA).gu s c.op.F {x with there:=true}).values.set (ag x.own) ((((D.put (af x.own 1) aA).gu s c.op.F {x with there:=true}).values.getD (ag x.own) (0,0)).1,c.op.value)}:St)=YV at*;generalize (((D.put (af x.own 1) aA).gu s c.op.F {x with there:=true}).values.getD (ag x.own) (0,0)).2=old at*;generalize hs2:((D.put (af x.own 1) aA).gu s c.op.F {x with there:=true})=aD at*;clear hs2;generalize A.bx s c.op.F=kx at*;generalize af x.own 1=V5 at*;generalize 2*ag x.own=iv at*;generalize x.own=ow at*;generalize x.there=th at*;generalize c.op.kind=kd at*;generalize c.op.value=va at*;obtain⟨Tw,Tx,Ty,Tz,TG⟩:=rf (x:=kd) (c:=4) (ci:=4) (by omega);clear Z;go_enter Tryz.func152,Tryz.ntmps152;go_wp2_with fail;refine wp_region_still_tail 10 (by kernel_rfl) (by kernel_rfl) ?_;simp only[jS,jT,jU,jV]
 repeat still_step
 still_call HS.out
 repeat still_step
 refine wpStill_nil ?_;change wpList _ _ _ _ _ w.drew;generalize w.drew=wd at*;go_wp2_with (go_at_call 47;refine HL.out.mono ?_;rintro e Y ⟨rfl,q1,q2⟩;have g1:=HG.out.trans q2;obtain⟨d1,d3,k0,a2,z2,hz⟩:=HB.out Y q1 g1;have HZ:=zH hz;clear q1 q2 g1 hz)
 go_region
 generalize hws:World.drew _=ws;obtain⟨r2,g2,d0',d1',YW,y0,y2,k3⟩:=HZ.out ws hws;have HQ:=zH (zA r2 g2);clear r2 g2 hws d1 d3 k0 a2 z2;obtain⟨hd,v1,v2,hz⟩:=HV.out ws HQ.out.1 HQ.out.2;have HD:=zH hd;have HY:=zH hz;clear hd hz;go_wp2_with fail;refine wp_region_still_tail 13 (by kernel_rfl) (by kernel_rfl) ?_;simp only[jS,jT,jU,jV]
 repeat still_step
 still_call HD.out
 repeat still_step
 refine wpStill_nil ?_;change wpList _ _ _ _ _ ws.drew;generalize ws.drew=wd2 at*;obtain⟨x0,x3,gz,he⟩:=HY.out _ rfl;have HE:=zH (zA he gz);clear he gz;go_wp2_with (go_at_call 113;refine HE.out.1.mono ?_;rintro e w3 ⟨A2,v,rfl,p1,p2,p3,p4⟩);go_ret;exact⟨A2,v,rfl,p1,HE.out.2.trans p2,p3,p4⟩
end Go.Proofs.YthicolbbmjfkfaaGreat.Em
