import Derived.Test.YthicolbbmjfkfaaGreatQf9
set_option linter.unusedVariables false
set_option linter.unusedSimpArgs false
set_option maxRecDepth 100000
set_option maxHeartbeats 1600000
namespace Go.Proofs.YthicolbbmjfkfaaGreat.Em
open Go.ChangeShapes Go.WideShapes Go.ChangeAt Go.RowKit En
variable {A:az} {D:St} {w:World}
theorem Ky (hR:aF A D w) (s:Nat) (G x1 id:Nat) (hid:id<=65535) (hpl:D.place id<D.words.length) (hw:D.word (D.place id)<18446744073709551616) (aN:D.count<4000000000000000000) (b0 b1 b2 b3 b4 b5:Nat)
 (B0:aP A.L w b0 (R A.V 0)) (B1:aP A.L w b1 (I id)) (B2:aP A.L w b2 (R (A.bt s) 0)) (B3:aP A.L w b3 (R (A.bc s) 0)) (B4:aP A.L w b4 (zu G)) (B5:aP A.L w b5 (zu x1)):
 zk 157 #[R b0 0,R b1 0,R b2 0,R b3 0,R b4 0,R b5 0] w (lF A w s (D.run s (.iw G x1 id))):=by
 have c0:=B0.cell;have c1:=B1.cell;have e2:=hR.z2;have HK:Hid (∀ E,Kp A w E->zS E b0 0 A.V 0∧zT E b1 0 id∧zS E A.V 2 A.ba 0):=by
  obtain⟨_,x0⟩:=B0;obtain⟨_,x1⟩:=B1;exact fun E k=>⟨k.fix _ _ _ x0.1 c0,k.fix _ _ _ x1.1 c1,k.ea⟩
 have HP:=U (eY hR.drew id hid);have HL:=U (iN hR.drew (D.place id) hpl aN);have HU:=U (fun E=>iX (D.word (D.place id)) hw E);have HG:=zG A.L w;have HB:Hid (∀ H,aF A D.tick H->Grow A.L w A.L H->zS H b0 0 A.V 0∧zS H b2 0 (A.bt s) 0∧zS H b3 0 (A.bc s) 0∧zV H b4 0 G∧zV H b5 0 x1):=fun H q g=>⟨(B0.grow g).cell,(B2.grow g).cell,(B3.grow g).cell,(B4.grow g).cell,(B5.grow g).cell⟩
 have aU:D.run s (.iw G x1 id)=(D.tick,some (if bA (D.word (D.place id))≠4 then .abort 14 2 else .claim G x1)):=by
  simp only[St.run];split<;>rfl
 rw[aU];have SN:Hid (∀ H,aF A D.tick H->zk 97 #[R A.V 0,R (A.bt s) 0,R (A.bc s) 0,I 14,I 2] H (bG A H s (D.tick,.abort 14 2))):=fun H q=>jM q s 14 2
 have Vh:Hid (∀ H,aF A D.tick H->zk 156 #[R A.V 0,R (A.bt s) 0,R (A.bc s) 0,zu G,zu x1] H (bG A H s (D.tick,.claim G x1))):=fun H q=>yN q s G x1
 clear hR hid hpl hw aN B0 B1 B2 B3 B4 B5 aU;generalize D.word (D.place id)=x at*;generalize hst:bA x=st at*;generalize hen:il x=en at*;clear hst hen
 by_cases h4:st=4
 . rw[bu (fun h=>h h4)]
   obtain⟨NB,NC,ND,NF,NG⟩:=rT (x:=st) (c:=4) (ci:=4) (by omega);clear h4;go_enter Tryz.func157,Tryz.ntmps157;go_wp2_with fail
   go_region_held3 (fun E=>zS E b0 0 A.V 0∧zT E b1 0 id∧zS E A.V 2 A.ba 0)
    (first|exact⟨c0,c1,e2⟩|assumption|exact HK.out _ (Kp.of (by assumption) (by assumption) (by assumption)))
    (first|(go_at_call 48;refine HP.out.mono ?_;rintro e E ⟨rfl,rfl⟩)|(go_at_call 42;refine HL.out.mono ?_;rintro e H ⟨rfl,q1,q2⟩;have q4:=HG.out.trans q2;have q3:=bU.refl A s;clear q2)|(go_at_call 109;refine (HU.out _).mono ?_;rintro e E ⟨rfl,rfl⟩))
   have HQ:=U (zA (‹aF A D.tick _›) (‹Grow A.L w A.L _›));obtain⟨d0,d2,d3,d4,d5⟩:=HB.out _ HQ.out.1 HQ.out.2;go_wp2_with (go_at_call 156;refine (Vh.out _ HQ.out.1).mono ?_;rintro e w2 ⟨A2,v,rfl,p1,p2,p3,p4⟩);go_ret;exact⟨A2,v,rfl,p1,HQ.out.2.trans p2,p3,p4⟩
 . rw[aW h4]
   obtain⟨NB,NC,ND,NF,NG⟩:=qE (x:=st) (c:=4) (ci:=4) (by omega);clear h4;go_enter Tryz.func157,Tryz.ntmps157;go_wp2_with fail
   go_region_held3 (fun E=>zS E b0 0 A.V 0∧zT E b1 0 id∧zS E A.V 2 A.ba 0)
    (first|exact⟨c0,c1,e2⟩|assumption|exact HK.out _ (Kp.of (by assumption) (by assumption) (by assumption)))
    (first|(go_at_call 48;refine HP.out.mono ?_;rintro e E ⟨rfl,rfl⟩)|(go_at_call 42;refine HL.out.mono ?_;rintro e H ⟨rfl,q1,q2⟩;have q4:=HG.out.trans q2;have q3:=bU.refl A s;clear q2)|(go_at_call 109;refine (HU.out _).mono ?_;rintro e E ⟨rfl,rfl⟩))
   have HQ:=U (zA (‹aF A D.tick _›) (‹Grow A.L w A.L _›));obtain⟨d0,d2,d3,d4,d5⟩:=HB.out _ HQ.out.1 HQ.out.2;go_wp2_with (go_at_call 97;refine (SN.out _ HQ.out.1).mono ?_;rintro e w2 ⟨A2,v,rfl,p1,p2,p3,p4⟩);go_ret;exact⟨A2,v,rfl,p1,HQ.out.2.trans p2,p3,p4⟩
theorem QH (hR:aF A D w) (s:Nat) (t:bL) (ht:D.ai.getD s none=some t) (c:dY) (hc:D.calls.getD s none=some c) (i bd:Nat) (hi:t.aR[i]? =some bd) (hil:t.aR.length<1000000) (hid:bd<=65535) (hpl:D.place bd<D.words.length) (hw:D.word (D.place bd)<18446744073709551616) (aN:D.count<4000000000000000000) (b0 b1 b2 b3 b4:Nat)
 (B0:aP A.L w b0 (R A.V 0)) (B1:aP A.L w b1 (R (A.bt s) 0)) (B2:aP A.L w b2 (I i)) (B3:aP A.L w b3 (R (A.bc s) 0)) (B4:aP A.L w b4 (.func (.func 164) #[] #[R b0 0,R b1 0,R b2 0,R b3 0,R b4 0])):
 zk 164 #[R b0 0,R b1 0,R b2 0,R b3 0,R b4 0] w (lF A w s (D.run s (.wait i))):=by
 have hown0:=hR.mem.all (.aR s);rw[mP ht] at hown0;have hj:(t.aR.map i64)[i]? =zt bd:=by rw[List.getElem?_map,hi];rfl
 obtain⟨g0,jB,hv,_⟩:=lG hown0.1 hj;have HKK:Hid (∀ bF E,aF A bF E->bF.ai=D.ai->Grow A.L w A.L E->zS E b0 0 A.V 0∧zS E b1 0 (A.bt s) 0∧zT E b2 0 i∧zS E A.V 2 A.ba 0∧E.cell? (J (A.bt s) 9)=some (.slice (some (J g0 0)) t.aR.length jB)∧zT E g0 i bd):=by
  intro bF E r he g;have ht':bF.ai.getD s none=some t:=by rw[he];exact ht
  have h9:=r.fI ht' 9 (v:=A.eQ s) rfl;have aY:=r.mem.all (.aR s);rw[mP ht'] at aY;obtain⟨g1,Ay,hv1,hc1⟩:=lG aY.1 hj;obtain rfl:g0=g1:=by rw[hv] at hv1;simp at hv1;exact hv1.1
  rw[hv] at h9;exact⟨(B0.grow g).cell,(B1.grow g).cell,(B2.grow g).cell,r.bT 2 rfl,h9,hc1⟩
 have JI:Hid (∀ E,aF A D.tick E->Grow A.L w A.L E->zS E b0 0 A.V 0∧zS E b1 0 (A.bt s) 0∧zT E b2 0 i∧zS E A.V 2 A.ba 0∧E.cell? (J (A.bt s) 9)=some (.slice (some (J g0 0)) t.aR.length jB)∧zT E g0 i bd):=fun E r g=>HKK.out D.tick E r rfl g
 obtain⟨c0,c1,c2,e2,h9,hg⟩:=HKK.out D w hR rfl (Grow.refl _ _);have b1':(i:Int)<(t.aR.length:Int):=by have:=(List.getElem?_eq_some_iff.1 hi).1;omega
 have b0':(0:Int)<=(i:Int):=by omega
 have HP:=U (eY hR.drew bd hid);have HL:=U (iN hR.drew (D.place bd) hpl aN);have HU:=U (fun E=>iX (D.word (D.place bd)) hw E);have HG:=zG A.L w;have HB:Hid (∀ H,aF A D.tick H->Grow A.L w A.L H->zS H b0 0 A.V 0∧zS H b1 0 (A.bt s) 0∧zT H b2 0 i∧zS H b3 0 (A.bc s) 0∧H.cell? (J b4 0)=some (.func (.func 164) #[] #[R b0 0,R b1 0,R b2 0,R b3 0,R b4 0])∧zB H (A.bc s) 10 c.waits∧H.frozen? (J (A.bc s) 10)=false):=
  fun H q g=>⟨(B0.grow g).cell,(B1.grow g).cell,(B2.grow g).cell,(B3.grow g).cell,(B4.grow g).cell,q.call (s:=s) (c:=c) hc 10 rfl,q.pX (s:=s) (c:=c) hc 10⟩
 have hgd:t.aR.getD i 0=bd:=by rw[mM,hi];rfl
 have aU:D.run s (.wait i)=if bA (D.word (D.place bd))=3 then (D.tick,some (jT t (i+1))) else if bA (D.word (D.place bd))=4 then (D.tick,some (.abort 14 4)) else (D.tick.aM s {c with waits:=true},some (.wait i)):=by
  have e1:D.t s=t:=cK ht;have e2:D.tick.t s=t:=cK ht;have e3:D.tick.c s=c:=bC hc;simp only[St.run,e1,e2,e3,hgd]
 rw[aU];have n1:IntKind.i64.wrap ((i:Int)+1)=(i:Int)+1:=by have:=(List.getElem?_eq_some_iff.1 hi).1;rw[je];omega
 have SN:Hid (∀ H,aF A D.tick H->zk 97 #[R A.V 0,R (A.bt s) 0,R (A.bc s) 0,I 14,I 4] H (bG A H s (D.tick,.abort 14 4))):=fun H q=>jM q s 14 4
 have Yp:Hid (∀ H,aF A D.tick H->zk 144 #[R A.V 0,R (A.bt s) 0,R (A.bc s) 0,I ((i:Int)+1)] H (bG A H s (D.tick,jT t (i+1)))):=fun H q=>Co q s t ht (i+1)
 have HST:Hid (∀ H,aF A D.tick H->Grow A.L w A.L H->∀ ws,H.setCell (J (A.bc s) 10) (.bool true)=ws->aF A (D.tick.aM s {c with waits:=true}) ws∧Grow A.L w A.L ws∧ws.cell? (J b4 0)=some (.func (.func 164) #[] #[R b0 0,R b1 0,R b2 0,R b3 0,R b4 0])):=by
  rintro H q g ws rfl;obtain⟨r2,g2⟩:=q.rV (s:=s) (c:=c) hc {c with waits:=true} 10 (.bool true) (by simp[fP]) rfl;exact⟨r2,g.trans g2,(B4.grow (g.trans g2)).cell⟩
 have hkp:kp A (D.tick.aM s {c with waits:=true}) s=kp A D s:=by
  have e:(D.tick.aM s {c with waits:=true}).c s={c with waits:=true}:=bC (by rw[di (D:=D.tick) (bR hc),aW rfl]);unfold kp;rw[e,bC hc]
 have Yq:=U hkp;clear hkp;have HX:=U (zA B0 (zA B1 (zA B2 (zA B3 B4))));clear hR ht hc hi hil hid hpl hw aN B0 B1 B2 B3 B4 hown0 hj hv hgd aU;generalize D.word (D.place bd)=x at*;generalize hst:bA x=st at*;generalize hen:il x=en at*;clear hst hen;generalize hbl:t.aR.length=n at*
 by_cases h3:st=3
 . rw[aW h3]
   obtain⟨NB,NC,ND,NF,NG⟩:=rT (x:=st) (c:=3) (ci:=3) (by omega);clear h3;go_enter Tryz.func164,Tryz.ntmps164;go_wp2_with fail
   go_region_held3 (fun E=>zS E b0 0 A.V 0∧zS E b1 0 (A.bt s) 0∧zT E b2 0 i∧zS E A.V 2 A.ba 0∧E.cell? (J (A.bt s) 9)=some (.slice (some (J g0 0)) n jB)∧zT E g0 i bd)
    (first|exact⟨c0,c1,c2,e2,h9,hg⟩|assumption|exact JI.out _ (by assumption) (by assumption))
    (first|(go_at_call 48;refine HP.out.mono ?_;rintro e E ⟨rfl,rfl⟩)|(go_at_call 42;refine HL.out.mono ?_;rintro e H ⟨rfl,q1,q2⟩;have q4:=HG.out.trans q2;have q3:=bU.refl A s;clear q2)|(go_at_call 109;refine (HU.out _).mono ?_;rintro e E ⟨rfl,rfl⟩))
   have HQ:=U (zA (‹aF A D.tick _›) (‹Grow A.L w A.L _›));obtain⟨d0,d1,d2,d3,d4,d5,d6⟩:=HB.out _ HQ.out.1 HQ.out.2;go_wp2_with (go_at_call 144;refine (Yp.out _ HQ.out.1).mono ?_;rintro e w2 ⟨A2,v,rfl,p1,p2,p3,p4⟩);go_ret;exact⟨A2,v,rfl,p1,HQ.out.2.trans p2,p3,p4⟩
 . rw[bu h3]
   obtain⟨NB,NC,ND,NF,NG⟩:=qE (x:=st) (c:=3) (ci:=3) (by omega)
   by_cases h4:st=4
   . rw[aW h4]
     obtain⟨fd1,Qm,Qn,Qo,Qp⟩:=rT (x:=st) (c:=4) (ci:=4) (by omega);clear h3 h4;go_enter Tryz.func164,Tryz.ntmps164;go_wp2_with fail
     go_region_held3 (fun E=>zS E b0 0 A.V 0∧zS E b1 0 (A.bt s) 0∧zT E b2 0 i∧zS E A.V 2 A.ba 0∧E.cell? (J (A.bt s) 9)=some (.slice (some (J g0 0)) n jB)∧zT E g0 i bd)
      (first|exact⟨c0,c1,c2,e2,h9,hg⟩|assumption|exact JI.out _ (by assumption) (by assumption))
      (first|(go_at_call 48;refine HP.out.mono ?_;rintro e E ⟨rfl,rfl⟩)|(go_at_call 42;refine HL.out.mono ?_;rintro e H ⟨rfl,q1,q2⟩;have q4:=HG.out.trans q2;have q3:=bU.refl A s;clear q2)|(go_at_call 109;refine (HU.out _).mono ?_;rintro e E ⟨rfl,rfl⟩))
     have HQ:=U (zA (‹aF A D.tick _›) (‹Grow A.L w A.L _›));obtain⟨d0,d1,d2,d3,d4,d5,d6⟩:=HB.out _ HQ.out.1 HQ.out.2;go_wp2_with (go_at_call 97;refine (SN.out _ HQ.out.1).mono ?_;rintro e w2 ⟨A2,v,rfl,p1,p2,p3,p4⟩);go_ret;exact⟨A2,v,rfl,p1,HQ.out.2.trans p2,p3,p4⟩
   . rw[bu h4]
     obtain⟨fd1,Qm,Qn,Qo,Qp⟩:=qE (x:=st) (c:=4) (ci:=4) (by omega);clear h3 h4;go_enter Tryz.func164,Tryz.ntmps164;go_wp2_with fail
     go_region_held3 (fun E=>zS E b0 0 A.V 0∧zS E b1 0 (A.bt s) 0∧zT E b2 0 i∧zS E A.V 2 A.ba 0∧E.cell? (J (A.bt s) 9)=some (.slice (some (J g0 0)) n jB)∧zT E g0 i bd)
      (first|exact⟨c0,c1,c2,e2,h9,hg⟩|assumption|exact JI.out _ (by assumption) (by assumption))
      (first|(go_at_call 48;refine HP.out.mono ?_;rintro e E ⟨rfl,rfl⟩)|(go_at_call 42;refine HL.out.mono ?_;rintro e H ⟨rfl,q1,q2⟩;have q4:=HG.out.trans q2;have q3:=bU.refl A s;clear q2)|(go_at_call 109;refine (HU.out _).mono ?_;rintro e E ⟨rfl,rfl⟩))
     have HQ:=U (zA (‹aF A D.tick _›) (‹Grow A.L w A.L _›));obtain⟨d0,d1,d2,d3,d4,d5,d6⟩:=HB.out _ HQ.out.1 HQ.out.2;go_wp2_with fail;generalize hws:World.setCell _ _ _=ws;obtain⟨r2,g2,d7⟩:=HST.out _ HQ.out.1 HQ.out.2 ws hws;have HZ:=U (zA r2 g2);clear d0 d1 d2 d3 d4 d5 d6 r2 g2 hws;go_wp2_with fail;go_ret;obtain⟨B0,B1,B2,B3,B4⟩:=HX.out;obtain⟨r2,g2⟩:=HZ.out;refine⟨A,_,rfl,r2,g2,bU.refl _ _,?_⟩;show nY (kp A _ s) _ _ _ _;rw[Yq.out];exact⟨_,_,_,_,_,rfl,B0.grow g2,B1.grow g2,B2.grow g2,B3.grow g2,B4.grow g2⟩
theorem Bb (hR:aF A D w) (s:Nat) (t:bL) (ht:D.ai.getD s none=some t) (c:dY) (hc:D.calls.getD s none=some c) (hmp:A.mp=0) (G x1:Nat) (hv:VL D G) (h1:1<=t.id) (h2:t.id<=65535) (hx:t.cell c.op.F=none) (hkl:t.keys.length<1000000) (hp:iY D) (aN:D.count<4000000000000000000) (b0 b1 b2 b3 b4:Nat)
 (B0:aP A.L w b0 (R A.V 0)) (B1:aP A.L w b1 (zu G)) (B2:aP A.L w b2 (zu x1)) (B3:aP A.L w b3 (R (A.bt s) 0)) (B4:aP A.L w b4 (R (A.bc s) 0)) (hm:D.word (af G 1)≠x1):
 zk 176 #[R b0 0,R b1 0,R b2 0,R b3 0,R b4 0] w (lF A w s (D.run s (.claim G x1))):=by
 have c0:=B0.cell;have c1:=B1.cell;have c2:=B2.cell;have c3:=B3.cell;have hsl:=hR.sl;have e2:=hR.z2;have hs1:zk 85 #[zu G,I 1] w.drew fun e E=>e=.returned (I ((af G 1:Nat):Int))∧E=w.drew:=flip (eD G 1 1 rfl hv.lo (by have:=hv.hi;omega) hv.u (by omega) w.drew)
 have HS:=U hs1;have hm1:zk 126 #[R (A.bt s) 0] w.drew fun e E=>e=.returned (zu ((mine t:Nat):Int))∧E=w.drew:=flip (qi hR.drew s t ht h1 h2)
 have HM:=U hm1;have HL:=U (nH hR.drew (af G 1) x1 (mine t) (dD hR hv.lo hv.hi (by omega)) aN);have HG:=zG A.L w;have aU:D.run s (.claim G x1)=(D.tick,some (.own G)):=by simp[St.run,St.cB,hm]
 rw[aU];have Z:(D.word (af G 1)==x1)=false:=by simpa using hm
 have hcs:D.cB (af G 1) x1 (mine t)=D.tick:=bu hm;rw[Z,hcs] at HL;have HB:Hid (∀ H,aF A D.tick H->Grow A.L w A.L H->zk 132 #[R A.V 0,R (A.bt s) 0,R (A.bc s) 0,zu G] H (bG A H s (D.tick,.own G))∧zS H b0 0 A.V 0∧zV H b1 0 G∧zS H b3 0 (A.bt s) 0∧zS H b4 0 (A.bc s) 0):=
  fun H q g=>⟨GH q s G,(B0.grow g).cell,(B1.grow g).cell,(B3.grow g).cell,(B4.grow g).cell⟩
 clear hR ht hc hv h1 h2 hx hkl hp aN B0 B1 B2 B3 B4 hm aU Z hcs hs1 hm1 hsl hmp;generalize mine t=mt at*;generalize af G 1=ws at*;go_enter Tryz.func176,Tryz.ntmps176;go_wp2_with fail;refine wp_region_still_tail 9 (by kernel_rfl) (by kernel_rfl) ?_;simp only[jZ,j6,kg,kr]
 repeat still_step
 still_call HS.out
 repeat still_step
 still_call HM.out
 refine wpStill_nil ?_;change wpList _ _ _ _ _ w.drew;generalize w.drew=wd at*;go_wp2_with (first|(go_at_call 45;refine HL.out.mono ?_;rintro e H ⟨rfl,q1,q2⟩;have g1:=HG.out.trans q2;obtain⟨hf,d0,d1,d3,d4⟩:=HB.out H q1 g1;have HQ:=U (zA hf g1);clear q1 q2 g1 hf)|(go_at_call 132;refine HQ.out.1.mono ?_;rintro e w2 ⟨A2,v,rfl,p1,p2,p3,p4⟩));go_ret;exact⟨A2,v,rfl,p1,HQ.out.2.trans p2,p3,p4⟩
theorem Db (hR:aF A D w) (s:Nat) (t:bL) (ht:D.ai.getD s none=some t) (c:dY) (hc:D.calls.getD s none=some c) (hmp:A.mp=0) (G x1:Nat) (hv:VL D G) (h1:1<=t.id) (h2:t.id<=65535) (hx:t.cell c.op.F=none) (hkl:t.keys.length<1000000) (hp:iY D) (aN:D.count<4000000000000000000) (b0 b1 b2 b3 b4:Nat)
 (B0:aP A.L w b0 (R A.V 0)) (B1:aP A.L w b1 (zu G)) (B2:aP A.L w b2 (zu x1)) (B3:aP A.L w b3 (R (A.bt s) 0)) (B4:aP A.L w b4 (R (A.bc s) 0)) (hm:D.word (af G 1)=x1):
 zk 176 #[R b0 0,R b1 0,R b2 0,R b3 0,R b4 0] w (lF A w s (D.run s (.claim G x1))):=by
 have c0:=B0.cell;have c1:=B1.cell;have c2:=B2.cell;have c3:=B3.cell;have hsl:=hR.sl;have e2:=hR.z2;have hs1:zk 85 #[zu G,I 1] w.drew fun e E=>e=.returned (I ((af G 1:Nat):Int))∧E=w.drew:=flip (eD G 1 1 rfl hv.lo (by have:=hv.hi;omega) hv.u (by omega) w.drew)
 have HS:=U hs1;have hm1:zk 126 #[R (A.bt s) 0] w.drew fun e E=>e=.returned (zu ((mine t:Nat):Int))∧E=w.drew:=flip (qi hR.drew s t ht h1 h2)
 have HM:=U hm1;have HL:=U (nH hR.drew (af G 1) x1 (mine t) (dD hR hv.lo hv.hi (by omega)) aN);have HG:=zG A.L w;have aU:D.run s (.claim G x1)=if c.op.kind=4 then (((D.put (af G 1) (mine t)).bS s c.op.F ⟨0,G,false⟩),some (.fin {})) else ((((D.put (af G 1) (mine t)).bS s c.op.F ⟨0,G,false⟩).slot s true 0 0).1,some (((D.put (af G 1) (mine t)).bS s c.op.F ⟨0,G,false⟩).slot s true 0 0).2):=by
  have e1:D.t s=t:=cK ht;have e2:(D.put (af G 1) (mine t)).c s=c:=bC hc;have e3:((D.put (af G 1) (mine t)).bS s c.op.F ⟨0,G,false⟩).c s=c:=bC hc;have hcs:D.cB (af G 1) x1 (mine t)=D.put (af G 1) (mine t):=aW hm;simp only[St.run,e1,hcs,e2,e3,hm,ne_eq,not_true_eq_false,if_false]
 have uf:=U aU;generalize D.run s (.claim G x1)=rr at*;have Z:(D.word (af G 1)==x1)=true:=by simpa using hm
 have hcs:D.cB (af G 1) x1 (mine t)=D.put (af G 1) (mine t):=aW hm;rw[Z,hcs] at HL;have HB:Hid (∀ H,aF A (D.put (af G 1) (mine t)) H->Grow A.L w A.L H->zk 177 #[R (A.bt s) 0,I c.op.F,zu G] H.drew (Qk A H.drew s c.op.F ((D.put (af G 1) (mine t)).bS s c.op.F ⟨0,G,false⟩))∧zV H b1 0 G∧zS H b3 0 (A.bt s) 0∧zS H b4 0 (A.bc s) 0∧zT H (A.bc s) 1 c.op.F):=
  fun H q g=>⟨wu q.drew s t ht c.op.F G hx hkl,(B1.grow g).cell,(B3.grow g).cell,(B4.grow g).cell,q.call (s:=s) (c:=c) hc 1 rfl⟩
 have HE : Hid (∀ w2 A1 b, aF A1 ((D.put (af G 1) (mine t)).bS s c.op.F ⟨0, G, false⟩) w2 -> Grow A.L w A1.L w2 -> bU A A1 s -> A1.bx s c.op.F = b ->
     zS w2 b0 0 A.V 0∧zS w2 b3 0 (A.bt s) 0∧zS w2 b4 0 (A.bc s) 0∧zT w2 (A.bc s) 0 c.op.kind∧
     zk 113 #[R A.V 0,R (A.bc s) 0,.agg #[I 0,I 0,.slice none 0 0,I 0,I 0]] w2 (bG A1 w2 s (((D.put (af G 1) (mine t)).bS s c.op.F ⟨0,G,false⟩),.fin {}))∧
     zk 151 #[R A.V 0,R (A.bt s) 0,R (A.bc s) 0,R b 0,zu 0,.slice none 0 0] w2 (bG A1 w2 s (((D.put (af G 1) (mine t)).bS s c.op.F ⟨0,G,false⟩).slot s true 0 0))):=by
  intro w2 A1 b r2 g st hbx;have hc2:((D.put (af G 1) (mine t)).bS s c.op.F ⟨0,G,false⟩).calls.getD s none=some c:=hc;have k0:=r2.call hc2 0 rfl;rw[st.bc] at k0;have he:=jm r2 s {} 0 0 0 0 (.slice none 0 0) rfl (.inr ⟨rfl,rfl⟩);rw[st.V,st.bc] at he;have hp':iY ((D.put (af G 1) (mine t)).bS s c.op.F ⟨0,G,false⟩):=⟨hp.n,hp.free,hp.tag,hp.jh⟩
  have hsl:=ry r2 s c hc2 true 0 0 (.slice none 0 0) (iJ.nil _ _ _) (.inl rfl) (st.mp.trans hmp) hp'.n hp'.list hp'.tag;have ex:(kp A1 ((D.put (af G 1) (mine t)).bS s c.op.F ⟨0,G,false⟩) s).xo true=R b 0:=by
   show ptr (A1.bx s (((D.put (af G 1) (mine t)).bS s c.op.F ⟨0,G,false⟩).c s).op.F)=_;rw[bC hc2,hbx]
  rw[ex,st.V,st.bt,st.bc] at hsl;exact⟨(B0.grow g).cell,(B3.grow g).cell,(B4.grow g).cell,k0,he,hsl⟩
 clear hR ht hc hv h1 h2 hx hkl hp aN B0 B1 B2 B3 B4 hm aU Z hcs hs1 hm1 hsl hmp;generalize ((D.put (af G 1) (mine t)).bS s c.op.F ⟨0,G,false⟩)=aC at*;generalize mine t=mt at*;generalize af G 1=ws at*;generalize c.op.F=F at*;generalize c.op.kind=kd at*
 by_cases h4:kd=4
 . have HE2:=U (uf.out.trans (aW h4))
   obtain⟨fa1,fa2,fa3,fa4,fa5⟩:=rT (x:=kd) (c:=4) (ci:=4) (by omega);clear h4;go_enter Tryz.func176,Tryz.ntmps176;go_wp2_with fail;refine wp_region_still_tail 9 (by kernel_rfl) (by kernel_rfl) ?_;simp only[jZ,j6,kg,kr]
   repeat still_step
   still_call HS.out
   repeat still_step
   still_call HM.out
   refine wpStill_nil ?_;change wpList _ _ _ _ _ w.drew;generalize w.drew=wd at*;go_wp2_with (go_at_call 45;refine HL.out.mono ?_;rintro e H ⟨rfl,q1,q2⟩;have g1:=HG.out.trans q2;obtain⟨hf,d1,d3,d4,d5⟩:=HB.out H q1 g1;have HQ:=U (zA hf (g1.trans (Grow.drew _ _)));clear q1 q2 g1 hf);refine wp_region_still_tail 7 (by kernel_rfl) (by kernel_rfl) ?_;simp only[jZ,j6,kg,kr]
   repeat still_step
   refine wpStill_nil ?_;change wpList _ _ _ _ _ H.drew;generalize H.drew=SG at*;go_wp2_with (first|(go_at_call 177;refine HQ.out.1.mono ?_;rintro e w2 ⟨b,rfl,A1,r2,g2,st,hbx,hvp⟩;obtain⟨d0,d3,d4,k0,he,hs⟩:=HE.out w2 A1 b r2 (HQ.out.2.trans g2) st hbx;have HZ:=U (zA he (zA (HQ.out.2.trans g2) st));clear r2 g2 st hbx hvp he hs)|(go_at_call 113;refine HZ.out.1.mono ?_;rintro e w3 ⟨A2,v,rfl,p1,p2,p3,p4⟩));go_ret;rw[HE2.out];exact⟨A2,v,rfl,p1,HZ.out.2.1.trans p2,HZ.out.2.2.trans p3,p4⟩
 . have HE2:=U (uf.out.trans (bu h4))
   obtain⟨fa1,fa2,fa3,fa4,fa5⟩:=qE (x:=kd) (c:=4) (ci:=4) (by omega);clear h4;go_enter Tryz.func176,Tryz.ntmps176;go_wp2_with fail;refine wp_region_still_tail 9 (by kernel_rfl) (by kernel_rfl) ?_;simp only[jZ,j6,kg,kr]
   repeat still_step
   still_call HS.out
   repeat still_step
   still_call HM.out
   refine wpStill_nil ?_;change wpList _ _ _ _ _ w.drew;generalize w.drew=wd at*;go_wp2_with (go_at_call 45;refine HL.out.mono ?_;rintro e H ⟨rfl,q1,q2⟩;have g1:=HG.out.trans q2;obtain⟨hf,d1,d3,d4,d5⟩:=HB.out H q1 g1;have HQ:=U (zA hf (g1.trans (Grow.drew _ _)));clear q1 q2 g1 hf);refine wp_region_still_tail 7 (by kernel_rfl) (by kernel_rfl) ?_;simp only[jZ,j6,kg,kr]
   repeat still_step
   refine wpStill_nil ?_;change wpList _ _ _ _ _ H.drew;generalize H.drew=SG at*;go_wp2_with (first|(go_at_call 177;refine HQ.out.1.mono ?_;rintro e w2 ⟨b,rfl,A1,r2,g2,st,hbx,hvp⟩;obtain⟨d0,d3,d4,k0,he,hs⟩:=HE.out w2 A1 b r2 (HQ.out.2.trans g2) st hbx;have HZ:=U (zA hs (zA (HQ.out.2.trans g2) st));clear r2 g2 st hbx hvp he hs)|(go_at_call 151;refine HZ.out.1.mono ?_;rintro e w3 ⟨A2,v,rfl,p1,p2,p3,p4⟩));go_ret;rw[HE2.out];exact⟨A2,v,rfl,p1,HZ.out.2.1.trans p2,HZ.out.2.2.trans p3,p4⟩
theorem N7 (hR:aF A D w) (s:Nat) (t:bL) (ht:D.ai.getD s none=some t) (c:dY) (hc:D.calls.getD s none=some c) (hmp:A.mp=0) (G x1:Nat) (hv:VL D G) (h1:1<=t.id) (h2:t.id<=65535) (hx:t.cell c.op.F=none) (hkl:t.keys.length<1000000) (hp:iY D) (aN:D.count<4000000000000000000) (b0 b1 b2 b3 b4:Nat)
 (B0:aP A.L w b0 (R A.V 0)) (B1:aP A.L w b1 (zu G)) (B2:aP A.L w b2 (zu x1)) (B3:aP A.L w b3 (R (A.bt s) 0)) (B4:aP A.L w b4 (R (A.bc s) 0)):
 zk 176 #[R b0 0,R b1 0,R b2 0,R b3 0,R b4 0] w (lF A w s (D.run s (.claim G x1))):=by
 by_cases hm:D.word (af G 1)=x1
 . exact Db hR s t ht c hc hmp G x1 hv h1 h2 hx hkl hp aN b0 b1 b2 b3 b4 B0 B1 B2 B3 B4 hm
 . exact Bb hR s t ht c hc hmp G x1 hv h1 h2 hx hkl hp aN b0 b1 b2 b3 b4 B0 B1 B2 B3 B4 hm
theorem Bc (hR:aF A D w) (s:Nat) (t:bL) (ht:D.ai.getD s none=some t) (c:dY) (hc:D.calls.getD s none=some c) (G head:Nat) (Y:c.op.F<64) (x:lg) (hx:t.cell c.op.F=some x) (aN:D.count<4000000000000000000) (b0 b1 b2 b3 b4 b5:Nat)
 (B0:aP A.L w b0 (R A.V 0)) (B1:aP A.L w b1 (R (A.bc s) 0)) (B2:aP A.L w b2 (zu head)) (B3:aP A.L w b3 (zu G)) (B4:aP A.L w b4 (R (A.bt s) 0)) (B5:aP A.L w b5 (.pointer (some ⟨(kp A D s).x,0,none⟩))) (hm:D.word (9+c.op.F)≠head):
 zk 194 #[R b0 0,R b1 0,R b2 0,R b3 0,R b4 0,R b5 0] w (lF A w s (D.run s (.eu G head))):=by
 have c0:=B0.cell;have c1:=B1.cell;have c2:=B2.cell;have c3:=B3.cell;have e2:=hR.z2;have k1:w.cell? (J (A.bc s) 1)=zt c.op.F:=hR.call hc 1 rfl;have n1:IntKind.i64.wrap (9+(c.op.F:Int))=9+(c.op.F:Int):=by rw[je];omega
 have HL:=U (uT hR.drew (9+c.op.F) head G (9+(c.op.F:Int)) (by omega) (by rw[hR.nw];omega) aN);have HG:=zG A.L w;have hpx:(kp A D s).x=A.bx s c.op.F:=by unfold kp;rw[bC hc]
 have aU:D.run s (.eu G head)=(D.tick,some (.over G)):=by simp[St.run,bC hc,St.cB,hm]
 rw[aU];have Z:(D.word (9+c.op.F)==head)=false:=by simpa using hm
 have hcs:D.cB (9+c.op.F) head G=D.tick:=bu hm;rw[Z,hcs] at HL;have HB:Hid (∀ H,aF A D.tick H->Grow A.L w A.L H->zk 171 #[R A.V 0,R (A.bt s) 0,R (A.bc s) 0,.pointer (some ⟨(kp A D s).x,0,none⟩),zu G] H (bG A H s (D.tick,.over G))∧zS H b0 0 A.V 0∧zS H b1 0 (A.bc s) 0∧zV H b3 0 G∧zS H b4 0 (A.bt s) 0∧H.cell? (J b5 0)=some (.pointer (some ⟨(kp A D s).x,0,none⟩))):=
  fun H q g=>⟨wI q s G,(B0.grow g).cell,(B1.grow g).cell,(B3.grow g).cell,(B4.grow g).cell,(B5.grow g).cell⟩
 clear hR ht hc Y hx aN B0 B1 B2 B3 B4 B5 hm aU Z hcs hpx;generalize (kp A D s).x=kx at*;generalize c.op.F=F at*;go_enter Tryz.func194,Tryz.ntmps194;go_wp2_with fail;refine wp_region_still_tail 12 (by kernel_rfl) (by kernel_rfl) ?_;simp only[jZ,j6,kg,kr]
 repeat still_step
 refine wpStill_nil ?_;change wpList _ _ _ _ _ w.drew;generalize w.drew=wd at*;go_wp2_with (first|(go_at_call 45;refine HL.out.mono ?_;rintro e H ⟨rfl,q1,q2⟩;have g1:=HG.out.trans q2;obtain⟨hf,d0,d1,d3,d4,d5⟩:=HB.out H q1 g1;have HQ:=U (zA hf g1);clear q1 q2 g1 hf)|(go_at_call 171;refine HQ.out.1.mono ?_;rintro e w2 ⟨A2,v,rfl,p1,p2,p3,p4⟩));go_ret;exact⟨A2,v,rfl,p1,HQ.out.2.trans p2,p3,p4⟩
theorem N8 (l:List (Nat×lg)) (F:Nat) (x y:lg):upd (upd l F x) F y=upd l F y:=by
 unfold upd;rw[List.map_map];refine List.map_congr_left fun p hp=>?_
 by_cases h:p.1=F<;>simp[h]
theorem Bd (l:List (Nat×lg)) (F:Nat) (x y:lg) (h:l.lookup F=some x):(upd l F y).lookup F=some y:=by
 induction l with
 |nil=>cases h
 |cons a l ih=>
  obtain⟨k,z⟩:=a
  by_cases Y:F=k
  . subst Y
    unfold upd;simp[List.lookup]
  . rw[List.lookup_cons,beq_false_of_ne Y] at h
    have e:upd ((k,z)::l) F y=(k,z)::upd l F y:=by unfold upd;simp[Ne.symm Y]
    rw[e,List.lookup_cons,beq_false_of_ne Y];exact ih h
theorem Dc (hR:aF A D w) (s:Nat) (t:bL) (ht:D.ai.getD s none=some t) (c:dY) (hc:D.calls.getD s none=some c) (G head:Nat) (Y:c.op.F<64) (x:lg) (hx:t.cell c.op.F=some x) (aN:D.count<4000000000000000000) (b0 b1 b2 b3 b4 b5:Nat)
 (B0:aP A.L w b0 (R A.V 0)) (B1:aP A.L w b1 (R (A.bc s) 0)) (B2:aP A.L w b2 (zu head)) (B3:aP A.L w b3 (zu G)) (B4:aP A.L w b4 (R (A.bt s) 0)) (B5:aP A.L w b5 (.pointer (some ⟨(kp A D s).x,0,none⟩))) (hm:D.word (9+c.op.F)=head):
 zk 194 #[R b0 0,R b1 0,R b2 0,R b3 0,R b4 0,R b5 0] w (lF A w s (D.run s (.eu G head))):=by
 have c0:=B0.cell;have c1:=B1.cell;have c2:=B2.cell;have c3:=B3.cell;have e2:=hR.z2;have k1:w.cell? (J (A.bc s) 1)=zt c.op.F:=hR.call hc 1 rfl;have n1:IntKind.i64.wrap (9+(c.op.F:Int))=9+(c.op.F:Int):=by rw[je];omega
 have HL:=U (uT hR.drew (9+c.op.F) head G (9+(c.op.F:Int)) (by omega) (by rw[hR.nw];omega) aN);have HG:=zG A.L w;have hpx:(kp A D s).x=A.bx s c.op.F:=by unfold kp;rw[bC hc]
 have aU:D.run s (.eu G head)=(((D.put (9+c.op.F) G).gI s c.op.F {(D.put (9+c.op.F) G).x s c.op.F with own:=G,there:=true}),some (.fin {})):=by simp[St.run,bC hc,St.cB,hm]
 rw[aU];have Z:(D.word (9+c.op.F)==head)=true:=by simpa using hm
 have hcs:D.cB (9+c.op.F) head G=D.put (9+c.op.F) G:=aW hm;rw[Z,hcs] at HL;rw[hpx] at B5
 have HE : Hid (∀ H, aF A (D.put (9 + c.op.F) G) H -> Grow A.L w A.L H ->
     zV H (A.bx s c.op.F) 0 x.own∧H.frozen? (J (A.bx s c.op.F) 0)=false∧zB H (A.bx s c.op.F) 2 x.there∧H.frozen? (J (A.bx s c.op.F) 2)=false∧zV H b3 0 G∧zS H b5 0 (A.bx s c.op.F) 0∧(H.setCell (J (A.bx s c.op.F) 0) (zu G)).cell? (J b5 0)=zs (A.bx s c.op.F) 0∧(H.setCell (J (A.bx s c.op.F) 0) (zu G)).cell? (J b3 0)=zv G∧
     ∀ ws,((H.setCell (J (A.bx s c.op.F) 0) (zu G)).setCell (J (A.bx s c.op.F) 2) (.bool true)).drew=ws->zS ws b0 0 A.V 0∧zS ws b1 0 (A.bc s) 0∧
     zk 113 #[R A.V 0,R (A.bc s) 0,.agg #[I 0,I 0,.slice none 0 0,I 0,I 0]] ws (bG A ws s (((D.put (9+c.op.F) G).gI s c.op.F {(D.put (9+c.op.F) G).x s c.op.F with own:=G,there:=true}),.fin {}))∧
     Grow A.L w A.L ws):=by
  intro H r1 g1;have ht1:(D.put (9+c.op.F) G).ai.getD s none=some t:=ht;obtain⟨a0,a1,a2⟩:=r1.EF ht1 hx;obtain⟨r3,g3⟩:=r1.tO ht1 hx {x with own:=G} 0 (zu G) rfl;refine⟨a0,r1.Ik ht1 hx 0,a2,r1.Ik ht1 hx 2,(B3.grow g1).cell,(B5.grow g1).cell,(B5.grow (g1.trans g3)).cell,(B3.grow (g1.trans g3)).cell,?_⟩;rintro ws rfl;have ht3:((D.put (9+c.op.F) G).bM s {t with cells:=upd t.cells c.op.F {x with own:=G}}).ai.getD s none=some {t with cells:=upd t.cells c.op.F {x with own:=G}}:=by rw[dB (dA ht1),aW rfl]
  have hx3:({t with cells:=upd t.cells c.op.F {x with own:=G}}:bL).cell c.op.F=some {x with own:=G}:=Bd _ _ _ _ hx;obtain⟨r4,g4⟩:=r3.tO ht3 hx3 {x with own:=G,there:=true} 2 (.bool true) rfl;have eS:((D.put (9+c.op.F) G).bM s {t with cells:=upd t.cells c.op.F {x with own:=G}}).bM s {t with cells:=upd (upd t.cells c.op.F {x with own:=G}) c.op.F {x with own:=G,there:=true}}=((D.put (9+c.op.F) G).gI s c.op.F {(D.put (9+c.op.F) G).x s c.op.F with own:=G,there:=true}):=by
   unfold St.gI St.x;rw[cK ht1,hx,N8];unfold St.bM;simp
  have r5:=r4.drew;rw[show (((D.put (9+c.op.F) G).bM s {t with cells:=upd t.cells c.op.F {x with own:=G}}).bM s {({t with cells:=upd t.cells c.op.F {x with own:=G}}:bL) with cells:=upd ({t with cells:=upd t.cells c.op.F {x with own:=G}}:bL).cells c.op.F {x with own:=G,there:=true}})=((D.put (9+c.op.F) G).gI s c.op.F {(D.put (9+c.op.F) G).x s c.op.F with own:=G,there:=true}) from eS] at r5;have g5:=((g1.trans g3).trans g4).trans (Grow.drew _ _);have he:=jm r5 s {} 0 0 0 0 (.slice none 0 0) rfl (.inr ⟨rfl,rfl⟩);exact⟨(B0.grow g5).cell,(B1.grow g5).cell,he,g5⟩
 clear hR ht hc Y hx aN B0 B1 B2 B3 B4 B5 hm aU Z hcs hpx;generalize ((D.put (9+c.op.F) G).gI s c.op.F {(D.put (9+c.op.F) G).x s c.op.F with own:=G,there:=true})=aK at*;generalize A.bx s c.op.F=kx at*;generalize c.op.F=F at*;go_enter Tryz.func194,Tryz.ntmps194;go_wp2_with fail;refine wp_region_still_tail 12 (by kernel_rfl) (by kernel_rfl) ?_;simp only[jZ,j6,kg,kr]
 repeat still_step
 refine wpStill_nil ?_;change wpList _ _ _ _ _ w.drew;generalize w.drew=wd at*;go_wp2_with (go_at_call 45;refine HL.out.mono ?_;rintro e H ⟨rfl,q1,q2⟩;have g1:=HG.out.trans q2;obtain⟨a0,z0,a2,z2,d3,d5,f5,f3,hz⟩:=HE.out H q1 g1;have HZ:=U hz;clear q1 q2 g1 hz)
 go_region
 generalize hws:World.drew _=ws;obtain⟨d0,d1,hf,gg⟩:=HZ.out ws hws;have HF:=U (zA hf gg);clear hf gg hws a0 z0 a2 z2 d3 d5 f5 f3;go_wp2_with (go_at_call 113;refine HF.out.1.mono ?_;rintro e w3 ⟨A2,v,rfl,p1,p2,p3,p4⟩);go_ret;exact⟨A2,v,rfl,p1,HF.out.2.trans p2,p3,p4⟩
theorem N9 (hR:aF A D w) (s:Nat) (t:bL) (ht:D.ai.getD s none=some t) (c:dY) (hc:D.calls.getD s none=some c) (G head:Nat) (Y:c.op.F<64) (x:lg) (hx:t.cell c.op.F=some x) (aN:D.count<4000000000000000000) (b0 b1 b2 b3 b4 b5:Nat)
 (B0:aP A.L w b0 (R A.V 0)) (B1:aP A.L w b1 (R (A.bc s) 0)) (B2:aP A.L w b2 (zu head)) (B3:aP A.L w b3 (zu G)) (B4:aP A.L w b4 (R (A.bt s) 0)) (B5:aP A.L w b5 (.pointer (some ⟨(kp A D s).x,0,none⟩))):
 zk 194 #[R b0 0,R b1 0,R b2 0,R b3 0,R b4 0,R b5 0] w (lF A w s (D.run s (.eu G head))):=by
 by_cases hm:D.word (9+c.op.F)=head
 . exact Dc hR s t ht c hc G head Y x hx aN b0 b1 b2 b3 b4 b5 B0 B1 B2 B3 B4 B5 hm
 . exact Bc hR s t ht c hc G head Y x hx aN b0 b1 b2 b3 b4 b5 B0 B1 B2 B3 B4 B5 hm
def rE (D:St) (s:Nat) (t:bL) (x:lg) (kind:Nat):St×K:=
 if x.there∧kind=2 then (D,.fin {e:=12}) else if x.there=false∧kind≠2 then (D,.fin {e:=11}) else if x.own=0 then D.slot s true 0 0 else (D,.again (if kind=4 then mine t else ever))
theorem De (hR:aF A D w) (s:Nat) (t:bL) (ht:D.ai.getD s none=some t) (c:dY) (hc:D.calls.getD s none=some c) (hmp:A.mp=0) (x:lg) (hx:t.cell c.op.F=some x) (h1:1<=t.id) (h2:t.id<=65535) (hp:iY D):
 zk 129 #[R A.V 0,R (A.bt s) 0,R (A.bc s) 0,R (A.bx s c.op.F) 0] w (bG A w s (rE D s t x c.op.kind)):=by
 obtain⟨r3,g3,f0,f1,f2⟩:=jl hR #[R A.V 0] 32 #[R (A.bc s) 0] 105 #[R (A.bx s c.op.F) 0] 223;have c0:=f0.cell 0 (v:=R A.V 0) rfl;have c1:=f1.cell 0 (v:=R (A.bc s) 0) rfl;have c2:=f2.cell 0 (v:=R (A.bx s c.op.F) 0) rfl;obtain⟨a0,a1,a2⟩:=r3.EF ht hx;have k0:=r3.call hc 0 (v:=I c.op.kind) rfl;have Vi:=U (jm r3 s {e:=12} 12 0 0 0 (.slice none 0 0) rfl (.inr ⟨rfl,rfl⟩));have Vj:=U (jm r3 s {e:=11} 11 0 0 0 (.slice none 0 0) rfl (.inr ⟨rfl,rfl⟩));have hsl:zk 151 #[R A.V 0,R (A.bt s) 0,R (A.bc s) 0,R (A.bx s c.op.F) 0,zu 0,.slice none 0 0] (((w.alloc (.cells #[R A.V 0] 32)).alloc (.cells #[R (A.bc s) 0] 105)).alloc (.cells #[R (A.bx s c.op.F) 0] 223)) (bG A (((w.alloc (.cells #[R A.V 0] 32)).alloc (.cells #[R (A.bc s) 0] 105)).alloc (.cells #[R (A.bx s c.op.F) 0] 223)) s (D.slot s true 0 0)):=by
  have h:=ry r3 s c hc true 0 0 (.slice none 0 0) (iJ.nil _ _ _) (.inl rfl) hmp hp.n hp.list hp.tag;have ex:(kp A D s).xo true=R (A.bx s c.op.F) 0:=by show ptr (A.bx s (D.c s).op.F)=_;rw[bC hc]
  rw[ex] at h;exact h
 have MQ:=U hsl;have HG:=U g3;have HM:Hid (∀ E,aF A D E->zk 126 #[R (A.bt s) 0] E fun e H=>e=.returned (zu ((mine t:Nat):Int))∧E=H):=fun E r=>qi r s t ht h1 h2
 have HF:Hid (∀ E,zk 127 #[] E fun e H=>e=.returned (zu 2305843009213693952)∧E=H):=fun E=>Word.qd E
 obtain⟨r4,g4,f4⟩:=dz r3 #[zu 2305843009213693952] 25;have z3:(((w.alloc (.cells #[R A.V 0] 32)).alloc (.cells #[R (A.bc s) 0] 105)).alloc (.cells #[R (A.bx s c.op.F) 0] 223)).heap.size=w.heap.size+1+1+1:=by simp
 rw[z3] at f4;have c4:=f4.cell 0 (v:=zu 2305843009213693952) rfl;have nz:=f4.frozen 0;have k4:=r4.call hc 0 (v:=I c.op.kind) rfl;have c14:=(f1.grow g4).cell 0 (v:=R (A.bc s) 0) rfl;have Yr:Hid (∀ n:Nat,aF A D ((((w.alloc (.cells #[R A.V 0] 32)).alloc (.cells #[R (A.bc s) 0] 105)).alloc (.cells #[R (A.bx s c.op.F) 0] 223)).alloc (.cells #[zu n] 25))∧Grow A.L (((w.alloc (.cells #[R A.V 0] 32)).alloc (.cells #[R (A.bc s) 0] 105)).alloc (.cells #[R (A.bx s c.op.F) 0] 223)) A.L ((((w.alloc (.cells #[R A.V 0] 32)).alloc (.cells #[R (A.bc s) 0] 105)).alloc (.cells #[R (A.bx s c.op.F) 0] 223)).alloc (.cells #[zu n] 25))∧Fix A.L ((((w.alloc (.cells #[R A.V 0] 32)).alloc (.cells #[R (A.bc s) 0] 105)).alloc (.cells #[R (A.bx s c.op.F) 0] 223)).alloc (.cells #[zu n] 25)) (w.heap.size+1+1+1) (.cells #[zu n] 25)):=fun n=>by
  obtain⟨k1,k2,k3⟩:=dz r3 #[zu n] 25;rw[z3] at k3;exact⟨k1,k2,k3⟩
 have HZ:=U (zA r4 (zA (g3.trans g4) (zA f0.box (zA f1.box (zA f2.box f4)))));have hkx:(kp A D s).x=A.bx s c.op.F:=by show A.bx s (D.c s).op.F=_;rw[bC hc]
 have Vk:=U hkx;have Vl:Hid (aP A.L (((w.alloc (.cells #[R A.V 0] 32)).alloc (.cells #[R (A.bc s) 0] 105)).alloc (.cells #[R (A.bx s c.op.F) 0] 223)) w.heap.size (R A.V 0)∧aP A.L (((w.alloc (.cells #[R A.V 0] 32)).alloc (.cells #[R (A.bc s) 0] 105)).alloc (.cells #[R (A.bx s c.op.F) 0] 223)) (w.heap.size+1) (R (A.bc s) 0)∧aP A.L (((w.alloc (.cells #[R A.V 0] 32)).alloc (.cells #[R (A.bc s) 0] 105)).alloc (.cells #[R (A.bx s c.op.F) 0] 223)) (w.heap.size+1+1) (R (A.bx s c.op.F) 0)∧Grow A.L (((w.alloc (.cells #[R A.V 0] 32)).alloc (.cells #[R (A.bc s) 0] 105)).alloc (.cells #[R (A.bx s c.op.F) 0] 223)) A.L ((((w.alloc (.cells #[R A.V 0] 32)).alloc (.cells #[R (A.bc s) 0] 105)).alloc (.cells #[R (A.bx s c.op.F) 0] 223)).alloc (.cells #[zu 2305843009213693952] 25))):=⟨f0.box,f1.box,f2.box,g4⟩
 have HR4:=U r4;unfold rE;clear hR ht hc hmp hx h1 h2 hp r3 g3 f0 f1 f2 hsl r4 g4 f4 z3 hkx;generalize mine t=mt at*;generalize c.op.kind=kd at*;generalize x.own=ow at*;generalize x.old=ol at*;generalize x.there=th at*
 cases th with
 |true=>
  by_cases k2:kd=2
  . rw[aW ⟨rfl,k2⟩]
    obtain⟨SQ,SS,SV,SY,S9⟩:=rT (x:=kd) (c:=2) (ci:=2) (by omega);clear k2;go_enter Tryz.func129,Tryz.ntmps129;go_wp2_with (go_at_call 113;refine Vi.out.mono ?_;rintro e w4 ⟨A2,v,rfl,p1,p2,p3,p4⟩);go_ret;exact⟨A2,v,rfl,p1,HG.out.trans p2,p3,p4⟩
  . rw[bu (fun h=>k2 h.2),bu (fun h=>by cases h.1)]
    obtain⟨SQ,SS,SV,SY,S9⟩:=qE (x:=kd) (c:=2) (ci:=2) (by omega)
    by_cases ho:ow=0
    . rw[aW ho]
      obtain⟨Vm,Vn,Vo,Vp,Vq⟩:=rT (x:=ow) (c:=0) (ci:=0) (by omega);clear ho;go_enter Tryz.func129,Tryz.ntmps129;go_wp2_with (go_at_call 151;refine MQ.out.mono ?_;rintro e w4 ⟨A2,v,rfl,p1,p2,p3,p4⟩);go_ret;exact⟨A2,v,rfl,p1,HG.out.trans p2,p3,p4⟩
    . rw[bu ho]
      obtain⟨Vm,Vn,Vo,Vp,Vq⟩:=qE (x:=ow) (c:=0) (ci:=0) (by omega);clear ho
      by_cases UI:kd=4
      . rw[aW UI]
        obtain⟨Xn,Xo,Xp,Xq,Xr⟩:=rT (x:=kd) (c:=4) (ci:=4) (by omega);clear UI k2;go_enter Tryz.func129,Tryz.ntmps129;go_wp2_with (first|(go_at_call 127;refine (HF.out _).mono ?_;rintro e E ⟨rfl,rfl⟩)|(go_at_call 126;refine (HM.out _ HR4.out).mono ?_;rintro e E ⟨rfl,rfl⟩));go_ret;obtain⟨r4,g4,f0,f1,f2,f4⟩:=HZ.out;obtain⟨b0,b1,b2,gg⟩:=Vl.out;obtain⟨r5,g5,f5⟩:=Yr.out mt;refine⟨A,_,rfl,r5,HG.out.trans g5,bU.refl _ _,_,_,_,_,rfl,b0.grow g5,?_,f5.box,b1.grow g5⟩;show aP _ _ _ (ptr (kp A D s).x);rw[Vk.out];exact b2.grow g5
      . rw[bu UI]
        obtain⟨Xn,Xo,Xp,Xq,Xr⟩:=qE (x:=kd) (c:=4) (ci:=4) (by omega);clear UI k2;go_enter Tryz.func129,Tryz.ntmps129;go_wp2_with (go_at_call 127;refine (HF.out _).mono ?_;rintro e E ⟨rfl,rfl⟩);go_ret;obtain⟨r4,g4,f0,f1,f2,f4⟩:=HZ.out;obtain⟨b0,b1,b2,gg⟩:=Vl.out;refine⟨A,_,rfl,r4,g4,bU.refl _ _,_,_,_,_,rfl,b0.grow gg,?_,f4.box,b1.grow gg⟩;show aP _ _ _ (ptr (kp A D s).x);rw[Vk.out];exact b2.grow gg
 |false=>
  by_cases k2:kd=2
  . rw[bu (fun h=>by cases h.1),bu (fun h=>h.2 k2)]
    obtain⟨SQ,SS,SV,SY,S9⟩:=rT (x:=kd) (c:=2) (ci:=2) (by omega);obtain⟨Xn,Xo,Xp,Xq,Xr⟩:=qE (x:=kd) (c:=4) (ci:=4) (by omega)
    by_cases ho:ow=0
    . rw[aW ho]
      obtain⟨Vm,Vn,Vo,Vp,Vq⟩:=rT (x:=ow) (c:=0) (ci:=0) (by omega);clear ho;go_enter Tryz.func129,Tryz.ntmps129;go_wp2_with (go_at_call 151;refine MQ.out.mono ?_;rintro e w4 ⟨A2,v,rfl,p1,p2,p3,p4⟩);go_ret;exact⟨A2,v,rfl,p1,HG.out.trans p2,p3,p4⟩
    . rw[bu ho]
      obtain⟨Vm,Vn,Vo,Vp,Vq⟩:=qE (x:=ow) (c:=0) (ci:=0) (by omega);clear ho;rw[bu (by omega)];clear k2;go_enter Tryz.func129,Tryz.ntmps129;go_wp2_with (go_at_call 127;refine (HF.out _).mono ?_;rintro e E ⟨rfl,rfl⟩);go_ret;obtain⟨r4,g4,f0,f1,f2,f4⟩:=HZ.out;obtain⟨b0,b1,b2,gg⟩:=Vl.out;refine⟨A,_,rfl,r4,g4,bU.refl _ _,_,_,_,_,rfl,b0.grow gg,?_,f4.box,b1.grow gg⟩;show aP _ _ _ (ptr (kp A D s).x);rw[Vk.out];exact b2.grow gg
  . rw[bu (fun h=>by cases h.1),aW ⟨rfl,k2⟩]
    obtain⟨SQ,SS,SV,SY,S9⟩:=qE (x:=kd) (c:=2) (ci:=2) (by omega);clear k2;go_enter Tryz.func129,Tryz.ntmps129;go_wp2_with (go_at_call 113;refine Vj.out.mono ?_;rintro e w4 ⟨A2,v,rfl,p1,p2,p3,p4⟩);go_ret;exact⟨A2,v,rfl,p1,HG.out.trans p2,p3,p4⟩
theorem Df (hR:aF A D w) (s:Nat) (t:bL) (ht:D.ai.getD s none=some t) (c:dY) (hc:D.calls.getD s none=some c) (ay:Nat) (x:lg) (hx:t.cell c.op.F=some x) (hv:VL D x.own) (Y:c.op.kind=4) (aN:D.count<4000000000000000000) (b0 b1 b2 b3:Nat)
 (B0:aP A.L w b0 (R A.V 0)) (B1:aP A.L w b1 (.pointer (some ⟨(kp A D s).x,0,none⟩))) (B2:aP A.L w b2 (zu ay)) (B3:aP A.L w b3 (R (A.bc s) 0)):
 zk 152 #[R b0 0,R b1 0,R b2 0,R b3 0] w (lF A w s (D.run s (.again ay))):=by
 have hpx:(kp A D s).x=A.bx s c.op.F:=by unfold kp;rw[bC hc]
 rw[hpx] at B1;have c0:=B0.cell;have c1:=B1.cell;have c2:=B2.cell;have hsl:=hR.sl;obtain⟨a0,_,_⟩:=hR.EF ht hx;have e2:=hR.z2;have hs1:zk 85 #[zu x.own,I 1] w.drew fun e E=>e=.returned (I ((af x.own 1:Nat):Int))∧E=w.drew:=flip (eD x.own 1 1 rfl hv.lo (by have:=hv.hi;omega) hv.u (by omega) w.drew)
 have HS:=U hs1;have HL:=U (gy hR.drew (af x.own 1) ay (dD hR hv.lo hv.hi (by omega)) aN);have HG:=zG A.L w;have e1:(D.put (af x.own 1) ay).c s=c:=bC hc;have aU:D.run s (.again ay)=(((D.put (af x.own 1) ay).gI s c.op.F {x with there:=false}),some (.fin {})):=by
  have e0:D.c s=c:=bC hc;have ex:D.x s c.op.F=x:=by unfold St.x;rw[cK ht,hx];rfl
  have e3:∀ y,((D.put (af x.own 1) ay).gI s c.op.F y).c s=c:=fun y=>bC hc
  have Z:(c.op.kind !=4)=false:=by simp[Y]
  simp only[St.run,e0,ex,e1,Z,e3,if_true,if_false,Bool.false_eq_true]
 rw[aU];have ht1:(D.put (af x.own 1) ay).ai.getD s none=some t:=ht;have hc1:(D.put (af x.own 1) ay).calls.getD s none=some c:=hc;have Vr:VL (D.put (af x.own 1) ay) x.own:=⟨hv.lo,hv.hi,hv.u⟩
 have HB : Hid (∀ H, aF A (D.put (af x.own 1) ay) H -> Grow A.L w A.L H -> zS H b1 0 (A.bx s c.op.F) 0 ∧ zS H b3 0 (A.bc s) 0 ∧ zT H (A.bc s) 0 (c.op.kind : Int) ∧ zB H (A.bx s c.op.F) 2 x.there ∧ H.frozen? (J (A.bx s c.op.F) 2) = false ∧
     ∀ ws,(H.setCell (J (A.bx s c.op.F) 2) (.bool false)).drew=ws->aF A ((D.put (af x.own 1) ay).gI s c.op.F {x with there:=false}) ws∧Grow A.L w A.L ws∧zS ws b0 0 A.V 0∧zS ws b1 0 (A.bx s c.op.F) 0∧zS ws b3 0 (A.bc s) 0∧zV ws (A.bx s c.op.F) 0 x.own∧zB ws (A.bx s c.op.F) 2 false∧zT ws (A.bc s) 3 c.op.value):=by
  intro H q g;obtain⟨_,_,a2⟩:=q.EF ht1 hx;refine⟨(B1.grow g).cell,(B3.grow g).cell,q.call hc1 0 rfl,a2,q.Ik ht1 hx 2,?_⟩;rintro ws rfl;obtain⟨r3,g3⟩:=q.tO ht1 hx {x with there:=false} 2 (.bool false) rfl;have eS:(D.put (af x.own 1) ay).bM s {t with cells:=upd t.cells c.op.F {x with there:=false}}=((D.put (af x.own 1) ay).gI s c.op.F {x with there:=false}):=by unfold St.gI;rw[cK ht1]
  rw[eS] at r3;have ht3:((D.put (af x.own 1) ay).gI s c.op.F {x with there:=false}).ai.getD s none=some {t with cells:=upd t.cells c.op.F {x with there:=false}}:=by rw[<-eS,dB (dA ht1),aW rfl]
  have hx3:({t with cells:=upd t.cells c.op.F {x with there:=false}}:bL).cell c.op.F=some {x with there:=false}:=Bd _ _ _ _ hx;have hc3:((D.put (af x.own 1) ay).gI s c.op.F {x with there:=false}).calls.getD s none=some c:=hc;have r4:=r3.drew;have g4:=(g.trans g3).trans (Grow.drew _ _);obtain⟨y0,_,y2⟩:=r4.EF ht3 hx3;exact⟨r4,g4,(B0.grow g4).cell,(B1.grow g4).cell,(B3.grow g4).cell,y0,y2,r4.call hc3 3 rfl⟩
 have HV:Hid (∀ ws,aF A ((D.put (af x.own 1) ay).gI s c.op.F {x with there:=false}) ws->zk 113 #[R A.V 0,R (A.bc s) 0,.agg #[I 0,I 0,.slice none 0 0,I 0,I 0]] ws (bG A ws s (((D.put (af x.own 1) ay).gI s c.op.F {x with there:=false}),.fin {}))):=fun ws q=>jm q s {} 0 0 0 0 (.slice none 0 0) rfl (.inr ⟨rfl,rfl⟩)
 clear hR ht hc hx hv aN B0 B1 B2 B3 aU hs1 e1 ht1 hc1 Vr hpx hsl;generalize ((D.put (af x.own 1) ay).gI s c.op.F {x with there:=false})=Yt at*;generalize A.bx s c.op.F=kx at*;generalize af x.own 1=Vs at*;generalize x.own=ow at*;generalize x.there=th at*;generalize c.op.kind=kd at*;generalize c.op.value=va at*;obtain⟨SQ,SS,SV,SY,S9⟩:=rT (x:=kd) (c:=4) (ci:=4) (by omega);clear Y;go_enter Tryz.func152,Tryz.ntmps152;go_wp2_with fail;refine wp_region_still_tail 10 (by kernel_rfl) (by kernel_rfl) ?_;simp only[jZ,j6,kg,kr]
 repeat still_step
 still_call HS.out
 repeat still_step
 refine wpStill_nil ?_;change wpList _ _ _ _ _ w.drew;generalize w.drew=wd at*;go_wp2_with (go_at_call 47;refine HL.out.mono ?_;rintro e H ⟨rfl,q1,q2⟩;have g1:=HG.out.trans q2;obtain⟨d1,d3,k0,a2,z2,hz⟩:=HB.out H q1 g1;have HZ:=U hz;clear q1 q2 g1 hz)
 go_region
 generalize hws:World.drew _=ws;obtain⟨r2,g2,d0',d1',Yu,y0,y2,k3⟩:=HZ.out ws hws;have HQ:=U (zA r2 g2);clear r2 g2 hws d1 d3 k0 a2 z2;go_wp2_with (go_at_call 113;refine (HV.out _ HQ.out.1).mono ?_;rintro e w3 ⟨A2,v,rfl,p1,p2,p3,p4⟩);go_ret;exact⟨A2,v,rfl,p1,HQ.out.2.trans p2,p3,p4⟩
theorem Dg (hR:aF A D w) (s:Nat) (t:bL) (ht:D.ai.getD s none=some t) (c:dY) (hc:D.calls.getD s none=some c) (ay:Nat) (x:lg) (hx:t.cell c.op.F=some x) (hv:VL D x.own) (Y:c.op.kind≠4) (aN:D.count<4000000000000000000) (b0 b1 b2 b3:Nat)
 (B0:aP A.L w b0 (R A.V 0)) (B1:aP A.L w b1 (.pointer (some ⟨(kp A D s).x,0,none⟩))) (B2:aP A.L w b2 (zu ay)) (B3:aP A.L w b3 (R (A.bc s) 0)):
 zk 152 #[R b0 0,R b1 0,R b2 0,R b3 0] w (lF A w s (D.run s (.again ay))):=by
 have hpx:(kp A D s).x=A.bx s c.op.F:=by unfold kp;rw[bC hc]
 rw[hpx] at B1;have c0:=B0.cell;have c1:=B1.cell;have c2:=B2.cell;have hsl:=hR.sl;obtain⟨a0,_,_⟩:=hR.EF ht hx;have e2:=hR.z2;have hs1:zk 85 #[zu x.own,I 1] w.drew fun e E=>e=.returned (I ((af x.own 1:Nat):Int))∧E=w.drew:=flip (eD x.own 1 1 rfl hv.lo (by have:=hv.hi;omega) hv.u (by omega) w.drew)
 have HS:=U hs1;have HL:=U (gy hR.drew (af x.own 1) ay (dD hR hv.lo hv.hi (by omega)) aN);have HG:=zG A.L w;have e1:(D.put (af x.own 1) ay).c s=c:=bC hc;have aU:D.run s (.again ay)=(({((D.put (af x.own 1) ay).gI s c.op.F {x with there:=true}) with values:=((D.put (af x.own 1) ay).gI s c.op.F {x with there:=true}).values.set (ag x.own) ((((D.put (af x.own 1) ay).gI s c.op.F {x with there:=true}).values.getD (ag x.own) (0,0)).1,c.op.value)}:St),some (.fin {})):=by
  have e0:D.c s=c:=bC hc;have ex:D.x s c.op.F=x:=by unfold St.x;rw[cK ht,hx];rfl
  have e3:∀ y,((D.put (af x.own 1) ay).gI s c.op.F y).c s=c:=fun y=>bC hc
  have Z:(c.op.kind !=4)=true:=by simp[Y]
  simp only[St.run,e0,ex,e1,Z,e3,if_true,if_false,Bool.false_eq_true]
 rw[aU];have ht1:(D.put (af x.own 1) ay).ai.getD s none=some t:=ht;have hc1:(D.put (af x.own 1) ay).calls.getD s none=some c:=hc;have Vr:VL (D.put (af x.own 1) ay) x.own:=⟨hv.lo,hv.hi,hv.u⟩
 have HB : Hid (∀ H, aF A (D.put (af x.own 1) ay) H -> Grow A.L w A.L H -> zS H b1 0 (A.bx s c.op.F) 0 ∧ zS H b3 0 (A.bc s) 0 ∧ zT H (A.bc s) 0 (c.op.kind : Int) ∧ zB H (A.bx s c.op.F) 2 x.there ∧ H.frozen? (J (A.bx s c.op.F) 2) = false ∧
     ∀ ws,(H.setCell (J (A.bx s c.op.F) 2) (.bool true)).drew=ws->aF A ((D.put (af x.own 1) ay).gI s c.op.F {x with there:=true}) ws∧Grow A.L w A.L ws∧zS ws b0 0 A.V 0∧zS ws b1 0 (A.bx s c.op.F) 0∧zS ws b3 0 (A.bc s) 0∧zV ws (A.bx s c.op.F) 0 x.own∧zB ws (A.bx s c.op.F) 2 true∧zT ws (A.bc s) 3 c.op.value):=by
  intro H q g;obtain⟨_,_,a2⟩:=q.EF ht1 hx;refine⟨(B1.grow g).cell,(B3.grow g).cell,q.call hc1 0 rfl,a2,q.Ik ht1 hx 2,?_⟩;rintro ws rfl;obtain⟨r3,g3⟩:=q.tO ht1 hx {x with there:=true} 2 (.bool true) rfl;have eS:(D.put (af x.own 1) ay).bM s {t with cells:=upd t.cells c.op.F {x with there:=true}}=((D.put (af x.own 1) ay).gI s c.op.F {x with there:=true}):=by unfold St.gI;rw[cK ht1]
  rw[eS] at r3;have ht3:((D.put (af x.own 1) ay).gI s c.op.F {x with there:=true}).ai.getD s none=some {t with cells:=upd t.cells c.op.F {x with there:=true}}:=by rw[<-eS,dB (dA ht1),aW rfl]
  have hx3:({t with cells:=upd t.cells c.op.F {x with there:=true}}:bL).cell c.op.F=some {x with there:=true}:=Bd _ _ _ _ hx;have hc3:((D.put (af x.own 1) ay).gI s c.op.F {x with there:=true}).calls.getD s none=some c:=hc;have r4:=r3.drew;have g4:=(g.trans g3).trans (Grow.drew _ _);obtain⟨y0,_,y2⟩:=r4.EF ht3 hx3;exact⟨r4,g4,(B0.grow g4).cell,(B1.grow g4).cell,(B3.grow g4).cell,y0,y2,r4.call hc3 3 rfl⟩
 have HV : Hid (∀ ws, aF A ((D.put (af x.own 1) ay).gI s c.op.F { x with there := true }) ws -> Grow A.L w A.L ws -> zk 87 #[R A.V 0, zu (x.own : Int)] ws.drew (fun e E => e = .returned (.pointer (some ⟨A.bv, 2 * ag x.own, none⟩)) ∧ E = ws.drew) ∧ ws.drew.cell? ⟨A.bv, 2 * ag x.own + 1, none⟩ = some (I ((((D.put (af x.own 1) ay).gI s c.op.F { x with there := true }).values.getD (ag x.own) (0, 0)).2 : Int)) ∧ ws.drew.frozen? ⟨A.bv, 2 * ag x.own + 1, none⟩ = false ∧
     ∀ wz,ws.drew.setCell ⟨A.bv,2*ag x.own+1,none⟩ (I c.op.value)=wz->zS wz b0 0 A.V 0∧zS wz b3 0 (A.bc s) 0∧Grow A.L w A.L wz∧zk 113 #[R A.V 0,R (A.bc s) 0,.agg #[I 0,I 0,.slice none 0 0,I 0,I 0]] wz (bG A wz s (({((D.put (af x.own 1) ay).gI s c.op.F {x with there:=true}) with values:=((D.put (af x.own 1) ay).gI s c.op.F {x with there:=true}).values.set (ag x.own) ((((D.put (af x.own 1) ay).gI s c.op.F {x with there:=true}).values.getD (ag x.own) (0,0)).1,c.op.value)}:St),.fin {}))):=by
  intro ws q g;have hi:ag x.own<((D.put (af x.own 1) ay).gI s c.op.F {x with there:=true}).aG:=iO (D:=D) hv;refine⟨flip (l9 q.drew x.own hv.lo hv.hi hv.u),(q.drew.val hi).2,q.drew.R4 _,?_⟩;rintro wz rfl;obtain⟨r5,g5⟩:=q.drew.Qa hi c.op.value;have g6:=(g.trans (Grow.drew _ _)).trans g5;exact⟨(B0.grow g6).cell,(B3.grow g6).cell,g6,jm r5 s {} 0 0 0 0 (.slice none 0 0) rfl (.inr ⟨rfl,rfl⟩)⟩
 clear hR ht hc hx hv aN B0 B1 B2 B3 aU hs1 e1 ht1 hc1 Vr hpx hsl;generalize ({((D.put (af x.own 1) ay).gI s c.op.F {x with there:=true}) with values:=((D.put (af x.own 1) ay).gI s c.op.F {x with there:=true}).values.set (ag x.own) ((((D.put (af x.own 1) ay).gI s c.op.F {x with there:=true}).values.getD (ag x.own) (0,0)).1,c.op.value)}:St)=Yt at*;generalize (((D.put (af x.own 1) ay).gI s c.op.F {x with there:=true}).values.getD (ag x.own) (0,0)).2=old at*;generalize hs2:((D.put (af x.own 1) ay).gI s c.op.F {x with there:=true})=aK at*;clear hs2;generalize A.bx s c.op.F=kx at*;generalize af x.own 1=Vs at*;generalize 2*ag x.own=iv at*;generalize x.own=ow at*;generalize x.there=th at*;generalize c.op.kind=kd at*;generalize c.op.value=va at*;obtain⟨SQ,SS,SV,SY,S9⟩:=qE (x:=kd) (c:=4) (ci:=4) (by omega);clear Y;go_enter Tryz.func152,Tryz.ntmps152;go_wp2_with fail;refine wp_region_still_tail 10 (by kernel_rfl) (by kernel_rfl) ?_;simp only[jZ,j6,kg,kr]
 repeat still_step
 still_call HS.out
 repeat still_step
 refine wpStill_nil ?_;change wpList _ _ _ _ _ w.drew;generalize w.drew=wd at*;go_wp2_with (go_at_call 47;refine HL.out.mono ?_;rintro e H ⟨rfl,q1,q2⟩;have g1:=HG.out.trans q2;obtain⟨d1,d3,k0,a2,z2,hz⟩:=HB.out H q1 g1;have HZ:=U hz;clear q1 q2 g1 hz)
 go_region
 generalize hws:World.drew _=ws;obtain⟨r2,g2,d0',d1',Yu,y0,y2,k3⟩:=HZ.out ws hws;have HQ:=U (zA r2 g2);clear r2 g2 hws d1 d3 k0 a2 z2;obtain⟨hd,v1,v2,hz⟩:=HV.out ws HQ.out.1 HQ.out.2;have HD:=U hd;have HY:=U hz;clear hd hz;go_wp2_with fail;refine wp_region_still_tail 13 (by kernel_rfl) (by kernel_rfl) ?_;simp only[jZ,j6,kg,kr]
 repeat still_step
 still_call HD.out
 repeat still_step
 refine wpStill_nil ?_;change wpList _ _ _ _ _ ws.drew;generalize ws.drew=wd2 at*;obtain⟨x0,x3,gz,he⟩:=HY.out _ rfl;have HE:=U (zA he gz);clear he gz;go_wp2_with (go_at_call 113;refine HE.out.1.mono ?_;rintro e w3 ⟨A2,v,rfl,p1,p2,p3,p4⟩);go_ret;exact⟨A2,v,rfl,p1,HE.out.2.trans p2,p3,p4⟩
end Go.Proofs.YthicolbbmjfkfaaGreat.Em
