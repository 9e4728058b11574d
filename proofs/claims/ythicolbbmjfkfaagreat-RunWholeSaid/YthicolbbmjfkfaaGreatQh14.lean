import Derived.Test.YthicolbbmjfkfaaGreatQh10
import Derived.Test.YthicolbbmjfkfaaGreatQh9
import Derived.Test.YthicolbbmjfkfaaGreatQh12
set_option linter.unusedVariables false
set_option linter.unusedSimpArgs false
set_option maxRecDepth 100000
set_option maxHeartbeats 1600000
namespace Go.Proofs.YthicolbbmjfkfaaGreat.Em
open Go.ChangeShapes Go.WideShapes Go.ChangeAt Go.RowKit En
variable {A:au} {D:St} {w:World}
theorem Gz (hR:aD A D w) (s:Nat) (F x1 id:Nat) (hid:id<=65535) (hpl:D.place id<D.words.length) (hw:D.word (D.place id)<18446744073709551616) (aQ:D.count<4000000000000000000) (b0 b1 b2 b3 b4 b5:Nat)
 (B0:aK A.L w b0 (R A.Y 0)) (B1:aK A.L w b1 (I id)) (B2:aK A.L w b2 (R (A.bt s) 0)) (B3:aK A.L w b3 (R (A.bc s) 0)) (B4:aK A.L w b4 (zu F)) (B5:aK A.L w b5 (zu x1)):
 zk 157 #[R b0 0,R b1 0,R b2 0,R b3 0,R b4 0,R b5 0] w (jO A w s (D.run s (.fG F x1 id))):=by
 have c0:=B0.cell;have c1:=B1.cell;have e2:=hR.z2;have HK:Hid (∀ G,Kp A w G->zS G b0 0 A.Y 0∧zT G b1 0 id∧zS G A.Y 2 A.ba 0):=by
  obtain⟨_,x0⟩:=B0;obtain⟨_,x1⟩:=B1;exact fun G k=>⟨k.fix _ _ _ x0.1 c0,k.fix _ _ _ x1.1 c1,k.ea⟩
 have HP:=U (fB hR.drew id hid);have HL:=U (gM hR.drew (D.place id) hpl aQ);have HU:=U (fun G=>jN (D.word (D.place id)) hw G);have HG:=zG A.L w;have HB:Hid (∀ H,aD A D.tick H->Grow A.L w A.L H->zS H b0 0 A.Y 0∧zS H b2 0 (A.bt s) 0∧zS H b3 0 (A.bc s) 0∧zV H b4 0 F∧zV H b5 0 x1):=fun H q g=>⟨(B0.grow g).cell,(B2.grow g).cell,(B3.grow g).cell,(B4.grow g).cell,(B5.grow g).cell⟩
 have aN:D.run s (.fG F x1 id)=(D.tick,some (if bA (D.word (D.place id))≠4 then .abort 14 2 else .claim F x1)):=by
  simp only[St.run];split<;>rfl
 rw[aN];have OT:Hid (∀ H,aD A D.tick H->zk 97 #[R A.Y 0,R (A.bt s) 0,R (A.bc s) 0,I 14,I 2] H (aZ A H s (D.tick,.abort 14 2))):=fun H q=>iP q s 14 2
 have QU:Hid (∀ H,aD A D.tick H->zk 156 #[R A.Y 0,R (A.bt s) 0,R (A.bc s) 0,zu F,zu x1] H (aZ A H s (D.tick,.claim F x1))):=fun H q=>wK q s F x1
 clear hR hid hpl hw aQ B0 B1 B2 B3 B4 B5 aN;generalize D.word (D.place id)=x at*;generalize hst:bA x=st at*;generalize hen:gD x=en at*;clear hst hen
 by_cases h4:st=4
 . rw[aX (fun h=>h h4)]
   obtain⟨Jv,Jw,Jy,Jz,JA⟩:=qX (x:=st) (c:=4) (ci:=4) (by omega);clear h4;go_enter Tryz.func157,Tryz.ntmps157;go_wp2_with fail
   go_region_held3 (fun G=>zS G b0 0 A.Y 0∧zT G b1 0 id∧zS G A.Y 2 A.ba 0)
    (first|exact⟨c0,c1,e2⟩|assumption|exact HK.out _ (Kp.of (by assumption) (by assumption) (by assumption)))
    (first|(go_at_call 48;refine HP.out.mono ?_;rintro e G ⟨rfl,rfl⟩)|(go_at_call 42;refine HL.out.mono ?_;rintro e H ⟨rfl,q1,q2⟩;have q4:=HG.out.trans q2;have q3:=bL.refl A s;clear q2)|(go_at_call 109;refine (HU.out _).mono ?_;rintro e G ⟨rfl,rfl⟩))
   have HQ:=U (zA (‹aD A D.tick _›) (‹Grow A.L w A.L _›));obtain⟨d0,d2,d3,d4,d5⟩:=HB.out _ HQ.out.1 HQ.out.2;go_wp2_with (go_at_call 156;refine (QU.out _ HQ.out.1).mono ?_;rintro e w2 ⟨A2,v,rfl,p1,p2,p3,p4⟩);go_ret;exact⟨A2,v,rfl,p1,HQ.out.2.trans p2,p3,p4⟩
 . rw[aV h4]
   obtain⟨Jv,Jw,Jy,Jz,JA⟩:=o9 (x:=st) (c:=4) (ci:=4) (by omega);clear h4;go_enter Tryz.func157,Tryz.ntmps157;go_wp2_with fail
   go_region_held3 (fun G=>zS G b0 0 A.Y 0∧zT G b1 0 id∧zS G A.Y 2 A.ba 0)
    (first|exact⟨c0,c1,e2⟩|assumption|exact HK.out _ (Kp.of (by assumption) (by assumption) (by assumption)))
    (first|(go_at_call 48;refine HP.out.mono ?_;rintro e G ⟨rfl,rfl⟩)|(go_at_call 42;refine HL.out.mono ?_;rintro e H ⟨rfl,q1,q2⟩;have q4:=HG.out.trans q2;have q3:=bL.refl A s;clear q2)|(go_at_call 109;refine (HU.out _).mono ?_;rintro e G ⟨rfl,rfl⟩))
   have HQ:=U (zA (‹aD A D.tick _›) (‹Grow A.L w A.L _›));obtain⟨d0,d2,d3,d4,d5⟩:=HB.out _ HQ.out.1 HQ.out.2;go_wp2_with (go_at_call 97;refine (OT.out _ HQ.out.1).mono ?_;rintro e w2 ⟨A2,v,rfl,p1,p2,p3,p4⟩);go_ret;exact⟨A2,v,rfl,p1,HQ.out.2.trans p2,p3,p4⟩
theorem Mi (hR:aD A D w) (s:Nat) (t:bB) (ht:D.ag.getD s none=some t) (c:dF) (hc:D.calls.getD s none=some c) (i bd:Nat) (hi:t.aJ[i]? =some bd) (hil:t.aJ.length<1000000) (hid:bd<=65535) (hpl:D.place bd<D.words.length) (hw:D.word (D.place bd)<18446744073709551616) (aQ:D.count<4000000000000000000) (b0 b1 b2 b3 b4:Nat)
 (B0:aK A.L w b0 (R A.Y 0)) (B1:aK A.L w b1 (R (A.bt s) 0)) (B2:aK A.L w b2 (I i)) (B3:aK A.L w b3 (R (A.bc s) 0)) (B4:aK A.L w b4 (.func (.func 164) #[] #[R b0 0,R b1 0,R b2 0,R b3 0,R b4 0])):
 zk 164 #[R b0 0,R b1 0,R b2 0,R b3 0,R b4 0] w (jO A w s (D.run s (.wait i))):=by
 have hown0:=hR.mem.all (.aJ s);rw[kR ht] at hown0;have hj:(t.aJ.map i64)[i]? =zt bd:=by rw[List.getElem?_map,hi];rfl
 obtain⟨g0,iJ,hv,_⟩:=jQ hown0.1 hj;have HKK:Hid (∀ bE G,aD A bE G->bE.ag=D.ag->Grow A.L w A.L G->zS G b0 0 A.Y 0∧zS G b1 0 (A.bt s) 0∧zT G b2 0 i∧zS G A.Y 2 A.ba 0∧G.cell? (J (A.bt s) 9)=some (.slice (some (J g0 0)) t.aJ.length iJ)∧zT G g0 i bd):=by
  intro bE G r he g;have ht':bE.ag.getD s none=some t:=by rw[he];exact ht
  have h9:=r.dZ ht' 9 (v:=A.dN s) rfl;have aS:=r.mem.all (.aJ s);rw[kR ht'] at aS;obtain⟨g1,ym,hv1,hc1⟩:=jQ aS.1 hj;obtain rfl:g0=g1:=by rw[hv] at hv1;simp at hv1;exact hv1.1
  rw[hv] at h9;exact⟨(B0.grow g).cell,(B1.grow g).cell,(B2.grow g).cell,r.eH 2 rfl,h9,hc1⟩
 have QV:Hid (∀ G,aD A D.tick G->Grow A.L w A.L G->zS G b0 0 A.Y 0∧zS G b1 0 (A.bt s) 0∧zT G b2 0 i∧zS G A.Y 2 A.ba 0∧G.cell? (J (A.bt s) 9)=some (.slice (some (J g0 0)) t.aJ.length iJ)∧zT G g0 i bd):=fun G r g=>HKK.out D.tick G r rfl g
 obtain⟨c0,c1,c2,e2,h9,hg⟩:=HKK.out D w hR rfl (Grow.refl _ _);have b1':(i:Int)<(t.aJ.length:Int):=by have:=(List.getElem?_eq_some_iff.1 hi).1;omega
 have b0':(0:Int)<=(i:Int):=by omega
 have HP:=U (fB hR.drew bd hid);have HL:=U (gM hR.drew (D.place bd) hpl aQ);have HU:=U (fun G=>jN (D.word (D.place bd)) hw G);have HG:=zG A.L w;have HB:Hid (∀ H,aD A D.tick H->Grow A.L w A.L H->zS H b0 0 A.Y 0∧zS H b1 0 (A.bt s) 0∧zT H b2 0 i∧zS H b3 0 (A.bc s) 0∧H.cell? (J b4 0)=some (.func (.func 164) #[] #[R b0 0,R b1 0,R b2 0,R b3 0,R b4 0])∧zB H (A.bc s) 10 c.waits∧H.frozen? (J (A.bc s) 10)=false):=
  fun H q g=>⟨(B0.grow g).cell,(B1.grow g).cell,(B2.grow g).cell,(B3.grow g).cell,(B4.grow g).cell,q.call (s:=s) (c:=c) hc 10 rfl,q.nT (s:=s) (c:=c) hc 10⟩
 have hgd:t.aJ.getD i 0=bd:=by rw[mM,hi];rfl
 have aN:D.run s (.wait i)=if bA (D.word (D.place bd))=3 then (D.tick,some (iK t (i+1))) else if bA (D.word (D.place bd))=4 then (D.tick,some (.abort 14 4)) else (D.tick.aF s {c with waits:=true},some (.wait i)):=by
  have e1:D.t s=t:=bQ ht;have e2:D.tick.t s=t:=bQ ht;have e3:D.tick.c s=c:=aU hc;simp only[St.run,e1,e2,e3,hgd]
 rw[aN];have n1:IntKind.i64.wrap ((i:Int)+1)=(i:Int)+1:=by have:=(List.getElem?_eq_some_iff.1 hi).1;rw[jH];omega
 have OT:Hid (∀ H,aD A D.tick H->zk 97 #[R A.Y 0,R (A.bt s) 0,R (A.bc s) 0,I 14,I 4] H (aZ A H s (D.tick,.abort 14 4))):=fun H q=>iP q s 14 4
 have Uu:Hid (∀ H,aD A D.tick H->zk 144 #[R A.Y 0,R (A.bt s) 0,R (A.bc s) 0,I ((i:Int)+1)] H (aZ A H s (D.tick,iK t (i+1)))):=fun H q=>zN q s t ht (i+1)
 have HST:Hid (∀ H,aD A D.tick H->Grow A.L w A.L H->∀ ws,H.setCell (J (A.bc s) 10) (.bool true)=ws->aD A (D.tick.aF s {c with waits:=true}) ws∧Grow A.L w A.L ws∧ws.cell? (J b4 0)=some (.func (.func 164) #[] #[R b0 0,R b1 0,R b2 0,R b3 0,R b4 0])):=by
  rintro H q g ws rfl;obtain⟨r2,g2⟩:=q.qg (s:=s) (c:=c) hc {c with waits:=true} 10 (.bool true) (by simp[eD]) rfl;exact⟨r2,g.trans g2,(B4.grow (g.trans g2)).cell⟩
 have hkp:kp A (D.tick.aF s {c with waits:=true}) s=kp A D s:=by
  have e:(D.tick.aF s {c with waits:=true}).c s={c with waits:=true}:=aU (by rw[bS (D:=D.tick) (bH hc),aV rfl]);unfold kp;rw[e,aU hc]
 have Uv:=U hkp;clear hkp;have HX:=U (zA B0 (zA B1 (zA B2 (zA B3 B4))));clear hR ht hc hi hil hid hpl hw aQ B0 B1 B2 B3 B4 hown0 hj hv hgd aN;generalize D.word (D.place bd)=x at*;generalize hst:bA x=st at*;generalize hen:gD x=en at*;clear hst hen;generalize hbl:t.aJ.length=n at*
 by_cases h3:st=3
 . rw[aV h3]
   obtain⟨Jv,Jw,Jy,Jz,JA⟩:=qX (x:=st) (c:=3) (ci:=3) (by omega);clear h3;go_enter Tryz.func164,Tryz.ntmps164;go_wp2_with fail
   go_region_held3 (fun G=>zS G b0 0 A.Y 0∧zS G b1 0 (A.bt s) 0∧zT G b2 0 i∧zS G A.Y 2 A.ba 0∧G.cell? (J (A.bt s) 9)=some (.slice (some (J g0 0)) n iJ)∧zT G g0 i bd)
    (first|exact⟨c0,c1,c2,e2,h9,hg⟩|assumption|exact QV.out _ (by assumption) (by assumption))
    (first|(go_at_call 48;refine HP.out.mono ?_;rintro e G ⟨rfl,rfl⟩)|(go_at_call 42;refine HL.out.mono ?_;rintro e H ⟨rfl,q1,q2⟩;have q4:=HG.out.trans q2;have q3:=bL.refl A s;clear q2)|(go_at_call 109;refine (HU.out _).mono ?_;rintro e G ⟨rfl,rfl⟩))
   have HQ:=U (zA (‹aD A D.tick _›) (‹Grow A.L w A.L _›));obtain⟨d0,d1,d2,d3,d4,d5,d6⟩:=HB.out _ HQ.out.1 HQ.out.2;go_wp2_with (go_at_call 144;refine (Uu.out _ HQ.out.1).mono ?_;rintro e w2 ⟨A2,v,rfl,p1,p2,p3,p4⟩);go_ret;exact⟨A2,v,rfl,p1,HQ.out.2.trans p2,p3,p4⟩
 . rw[aX h3]
   obtain⟨Jv,Jw,Jy,Jz,JA⟩:=o9 (x:=st) (c:=3) (ci:=3) (by omega)
   by_cases h4:st=4
   . rw[aV h4]
     obtain⟨fd1,L6,L8,L9,Ma⟩:=qX (x:=st) (c:=4) (ci:=4) (by omega);clear h3 h4;go_enter Tryz.func164,Tryz.ntmps164;go_wp2_with fail
     go_region_held3 (fun G=>zS G b0 0 A.Y 0∧zS G b1 0 (A.bt s) 0∧zT G b2 0 i∧zS G A.Y 2 A.ba 0∧G.cell? (J (A.bt s) 9)=some (.slice (some (J g0 0)) n iJ)∧zT G g0 i bd)
      (first|exact⟨c0,c1,c2,e2,h9,hg⟩|assumption|exact QV.out _ (by assumption) (by assumption))
      (first|(go_at_call 48;refine HP.out.mono ?_;rintro e G ⟨rfl,rfl⟩)|(go_at_call 42;refine HL.out.mono ?_;rintro e H ⟨rfl,q1,q2⟩;have q4:=HG.out.trans q2;have q3:=bL.refl A s;clear q2)|(go_at_call 109;refine (HU.out _).mono ?_;rintro e G ⟨rfl,rfl⟩))
     have HQ:=U (zA (‹aD A D.tick _›) (‹Grow A.L w A.L _›));obtain⟨d0,d1,d2,d3,d4,d5,d6⟩:=HB.out _ HQ.out.1 HQ.out.2;go_wp2_with (go_at_call 97;refine (OT.out _ HQ.out.1).mono ?_;rintro e w2 ⟨A2,v,rfl,p1,p2,p3,p4⟩);go_ret;exact⟨A2,v,rfl,p1,HQ.out.2.trans p2,p3,p4⟩
   . rw[aX h4]
     obtain⟨fd1,L6,L8,L9,Ma⟩:=o9 (x:=st) (c:=4) (ci:=4) (by omega);clear h3 h4;go_enter Tryz.func164,Tryz.ntmps164;go_wp2_with fail
     go_region_held3 (fun G=>zS G b0 0 A.Y 0∧zS G b1 0 (A.bt s) 0∧zT G b2 0 i∧zS G A.Y 2 A.ba 0∧G.cell? (J (A.bt s) 9)=some (.slice (some (J g0 0)) n iJ)∧zT G g0 i bd)
      (first|exact⟨c0,c1,c2,e2,h9,hg⟩|assumption|exact QV.out _ (by assumption) (by assumption))
      (first|(go_at_call 48;refine HP.out.mono ?_;rintro e G ⟨rfl,rfl⟩)|(go_at_call 42;refine HL.out.mono ?_;rintro e H ⟨rfl,q1,q2⟩;have q4:=HG.out.trans q2;have q3:=bL.refl A s;clear q2)|(go_at_call 109;refine (HU.out _).mono ?_;rintro e G ⟨rfl,rfl⟩))
     have HQ:=U (zA (‹aD A D.tick _›) (‹Grow A.L w A.L _›));obtain⟨d0,d1,d2,d3,d4,d5,d6⟩:=HB.out _ HQ.out.1 HQ.out.2;go_wp2_with fail;generalize hws:World.setCell _ _ _=ws;obtain⟨r2,g2,d7⟩:=HST.out _ HQ.out.1 HQ.out.2 ws hws;have HZ:=U (zA r2 g2);clear d0 d1 d2 d3 d4 d5 d6 r2 g2 hws;go_wp2_with fail;go_ret;obtain⟨B0,B1,B2,B3,B4⟩:=HX.out;obtain⟨r2,g2⟩:=HZ.out;refine⟨A,_,rfl,r2,g2,bL.refl _ _,?_⟩;show lL (kp A _ s) _ _ _ _;rw[Uv.out];exact⟨_,_,_,_,_,rfl,B0.grow g2,B1.grow g2,B2.grow g2,B3.grow g2,B4.grow g2⟩
theorem yA (hR:aD A D w) (s:Nat) (t:bB) (ht:D.ag.getD s none=some t) (c:dF) (hc:D.calls.getD s none=some c) (hmp:A.mp=0) (F x1:Nat) (hv:VL D F) (h1:1<=t.id) (h2:t.id<=65535) (hx:t.cell c.op.E=none) (hkl:t.keys.length<1000000) (hp:iL D) (aQ:D.count<4000000000000000000) (b0 b1 b2 b3 b4:Nat)
 (B0:aK A.L w b0 (R A.Y 0)) (B1:aK A.L w b1 (zu F)) (B2:aK A.L w b2 (zu x1)) (B3:aK A.L w b3 (R (A.bt s) 0)) (B4:aK A.L w b4 (R (A.bc s) 0)) (hm:D.word (af F 1)≠x1):
 zk 176 #[R b0 0,R b1 0,R b2 0,R b3 0,R b4 0] w (jO A w s (D.run s (.claim F x1))):=by
 have c0:=B0.cell;have c1:=B1.cell;have c2:=B2.cell;have c3:=B3.cell;have hsl:=hR.sl;have e2:=hR.z2;have hs1:zk 85 #[zu F,I 1] w.drew fun e G=>e=.returned (I ((af F 1:Nat):Int))∧G=w.drew:=flip (gF F 1 1 rfl hv.lo (by have:=hv.hi;omega) hv.u (by omega) w.drew)
 have HS:=U hs1;have hm1:zk 126 #[R (A.bt s) 0] w.drew fun e G=>e=.returned (zu ((mine t:Nat):Int))∧G=w.drew:=flip (og hR.drew s t ht h1 h2)
 have HM:=U hm1;have HL:=U (oN hR.drew (af F 1) x1 (mine t) (fI hR hv.lo hv.hi (by omega)) aQ);have HG:=zG A.L w;have aN:D.run s (.claim F x1)=(D.tick,some (.own F)):=by simp[St.run,St.bP,hm]
 rw[aN];have Z:(D.word (af F 1)==x1)=false:=by simpa using hm
 have hcs:D.bP (af F 1) x1 (mine t)=D.tick:=aX hm;rw[Z,hcs] at HL;have HB:Hid (∀ H,aD A D.tick H->Grow A.L w A.L H->zk 132 #[R A.Y 0,R (A.bt s) 0,R (A.bc s) 0,zu F] H (aZ A H s (D.tick,.own F))∧zS H b0 0 A.Y 0∧zV H b1 0 F∧zS H b3 0 (A.bt s) 0∧zS H b4 0 (A.bc s) 0):=
  fun H q g=>⟨Dw q s F,(B0.grow g).cell,(B1.grow g).cell,(B3.grow g).cell,(B4.grow g).cell⟩
 clear hR ht hc hv h1 h2 hx hkl hp aQ B0 B1 B2 B3 B4 hm aN Z hcs hs1 hm1 hsl hmp;generalize mine t=mt at*;generalize af F 1=ws at*;go_enter Tryz.func176,Tryz.ntmps176;go_wp2_with fail;refine wp_region_still_tail 9 (by kernel_rfl) (by kernel_rfl) ?_;simp only[jk,jl,jm,jo]
 repeat still_step
 still_call HS.out
 repeat still_step
 still_call HM.out
 refine wpStill_nil ?_;change wpList _ _ _ _ _ w.drew;generalize w.drew=wd at*;go_wp2_with (first|(go_at_call 45;refine HL.out.mono ?_;rintro e H ⟨rfl,q1,q2⟩;have g1:=HG.out.trans q2;obtain⟨hf,d0,d1,d3,d4⟩:=HB.out H q1 g1;have HQ:=U (zA hf g1);clear q1 q2 g1 hf)|(go_at_call 132;refine HQ.out.1.mono ?_;rintro e w2 ⟨A2,v,rfl,p1,p2,p3,p4⟩));go_ret;exact⟨A2,v,rfl,p1,HQ.out.2.trans p2,p3,p4⟩
theorem Ar (hR:aD A D w) (s:Nat) (t:bB) (ht:D.ag.getD s none=some t) (c:dF) (hc:D.calls.getD s none=some c) (hmp:A.mp=0) (F x1:Nat) (hv:VL D F) (h1:1<=t.id) (h2:t.id<=65535) (hx:t.cell c.op.E=none) (hkl:t.keys.length<1000000) (hp:iL D) (aQ:D.count<4000000000000000000) (b0 b1 b2 b3 b4:Nat)
 (B0:aK A.L w b0 (R A.Y 0)) (B1:aK A.L w b1 (zu F)) (B2:aK A.L w b2 (zu x1)) (B3:aK A.L w b3 (R (A.bt s) 0)) (B4:aK A.L w b4 (R (A.bc s) 0)) (hm:D.word (af F 1)=x1):
 zk 176 #[R b0 0,R b1 0,R b2 0,R b3 0,R b4 0] w (jO A w s (D.run s (.claim F x1))):=by
 have c0:=B0.cell;have c1:=B1.cell;have c2:=B2.cell;have c3:=B3.cell;have hsl:=hR.sl;have e2:=hR.z2;have hs1:zk 85 #[zu F,I 1] w.drew fun e G=>e=.returned (I ((af F 1:Nat):Int))∧G=w.drew:=flip (gF F 1 1 rfl hv.lo (by have:=hv.hi;omega) hv.u (by omega) w.drew)
 have HS:=U hs1;have hm1:zk 126 #[R (A.bt s) 0] w.drew fun e G=>e=.returned (zu ((mine t:Nat):Int))∧G=w.drew:=flip (og hR.drew s t ht h1 h2)
 have HM:=U hm1;have HL:=U (oN hR.drew (af F 1) x1 (mine t) (fI hR hv.lo hv.hi (by omega)) aQ);have HG:=zG A.L w;have aN:D.run s (.claim F x1)=if c.op.kind=4 then (((D.put (af F 1) (mine t)).bF s c.op.E ⟨0,F,false⟩),some (.fin {})) else ((((D.put (af F 1) (mine t)).bF s c.op.E ⟨0,F,false⟩).slot s true 0 0).1,some (((D.put (af F 1) (mine t)).bF s c.op.E ⟨0,F,false⟩).slot s true 0 0).2):=by
  have e1:D.t s=t:=bQ ht;have e2:(D.put (af F 1) (mine t)).c s=c:=aU hc;have e3:((D.put (af F 1) (mine t)).bF s c.op.E ⟨0,F,false⟩).c s=c:=aU hc;have hcs:D.bP (af F 1) x1 (mine t)=D.put (af F 1) (mine t):=aV hm;simp only[St.run,e1,hcs,e2,e3,hm,ne_eq,not_true_eq_false,if_false]
 have rf:=U aN;generalize D.run s (.claim F x1)=rr at*;have Z:(D.word (af F 1)==x1)=true:=by simpa using hm
 have hcs:D.bP (af F 1) x1 (mine t)=D.put (af F 1) (mine t):=aV hm;rw[Z,hcs] at HL;have HB:Hid (∀ H,aD A (D.put (af F 1) (mine t)) H->Grow A.L w A.L H->zk 177 #[R (A.bt s) 0,I c.op.E,zu F] H.drew (LP A H.drew s c.op.E ((D.put (af F 1) (mine t)).bF s c.op.E ⟨0,F,false⟩))∧zV H b1 0 F∧zS H b3 0 (A.bt s) 0∧zS H b4 0 (A.bc s) 0∧zT H (A.bc s) 1 c.op.E):=
  fun H q g=>⟨uj q.drew s t ht c.op.E F hx hkl,(B1.grow g).cell,(B3.grow g).cell,(B4.grow g).cell,q.call (s:=s) (c:=c) hc 1 rfl⟩
 have HE : Hid (∀ w2 A1 b, aD A1 ((D.put (af F 1) (mine t)).bF s c.op.E ⟨0, F, false⟩) w2 -> Grow A.L w A1.L w2 -> bL A A1 s -> A1.bx s c.op.E = b ->
     zS w2 b0 0 A.Y 0∧zS w2 b3 0 (A.bt s) 0∧zS w2 b4 0 (A.bc s) 0∧zT w2 (A.bc s) 0 c.op.kind∧
     zk 113 #[R A.Y 0,R (A.bc s) 0,.agg #[I 0,I 0,.slice none 0 0,I 0,I 0]] w2 (aZ A1 w2 s (((D.put (af F 1) (mine t)).bF s c.op.E ⟨0,F,false⟩),.fin {}))∧
     zk 151 #[R A.Y 0,R (A.bt s) 0,R (A.bc s) 0,R b 0,zu 0,.slice none 0 0] w2 (aZ A1 w2 s (((D.put (af F 1) (mine t)).bF s c.op.E ⟨0,F,false⟩).slot s true 0 0))):=by
  intro w2 A1 b r2 g st hbx;have hc2:((D.put (af F 1) (mine t)).bF s c.op.E ⟨0,F,false⟩).calls.getD s none=some c:=hc;have k0:=r2.call hc2 0 rfl;rw[st.bc] at k0;have he:=iE r2 s {} 0 0 0 0 (.slice none 0 0) rfl (.inr ⟨rfl,rfl⟩);rw[st.Y,st.bc] at he;have hp':iL ((D.put (af F 1) (mine t)).bF s c.op.E ⟨0,F,false⟩):=⟨hp.n,hp.free,hp.tag,hp.iA⟩
  have hsl:=pQ r2 s c hc2 true 0 0 (.slice none 0 0) (dQ.nil _ _ _) (.inl rfl) (st.mp.trans hmp) hp'.n hp'.list hp'.tag;have ex:(kp A1 ((D.put (af F 1) (mine t)).bF s c.op.E ⟨0,F,false⟩) s).xo true=R b 0:=by
   show ptr (A1.bx s (((D.put (af F 1) (mine t)).bF s c.op.E ⟨0,F,false⟩).c s).op.E)=_;rw[aU hc2,hbx]
  rw[ex,st.Y,st.bt,st.bc] at hsl;exact⟨(B0.grow g).cell,(B3.grow g).cell,(B4.grow g).cell,k0,he,hsl⟩
 clear hR ht hc hv h1 h2 hx hkl hp aQ B0 B1 B2 B3 B4 hm aN Z hcs hs1 hm1 hsl hmp;generalize ((D.put (af F 1) (mine t)).bF s c.op.E ⟨0,F,false⟩)=aH at*;generalize mine t=mt at*;generalize af F 1=ws at*;generalize c.op.E=E at*;generalize c.op.kind=kd at*
 by_cases h4:kd=4
 . have HE2:=U (rf.out.trans (aV h4))
   obtain⟨fa1,fa2,fa3,fa4,fa5⟩:=qX (x:=kd) (c:=4) (ci:=4) (by omega);clear h4;go_enter Tryz.func176,Tryz.ntmps176;go_wp2_with fail;refine wp_region_still_tail 9 (by kernel_rfl) (by kernel_rfl) ?_;simp only[jk,jl,jm,jo]
   repeat still_step
   still_call HS.out
   repeat still_step
   still_call HM.out
   refine wpStill_nil ?_;change wpList _ _ _ _ _ w.drew;generalize w.drew=wd at*;go_wp2_with (go_at_call 45;refine HL.out.mono ?_;rintro e H ⟨rfl,q1,q2⟩;have g1:=HG.out.trans q2;obtain⟨hf,d1,d3,d4,d5⟩:=HB.out H q1 g1;have HQ:=U (zA hf (g1.trans (Grow.drew _ _)));clear q1 q2 g1 hf);refine wp_region_still_tail 7 (by kernel_rfl) (by kernel_rfl) ?_;simp only[jk,jl,jm,jo]
   repeat still_step
   refine wpStill_nil ?_;change wpList _ _ _ _ _ H.drew;generalize H.drew=Ov at*;go_wp2_with (first|(go_at_call 177;refine HQ.out.1.mono ?_;rintro e w2 ⟨b,rfl,A1,r2,g2,st,hbx,hvp⟩;obtain⟨d0,d3,d4,k0,he,hs⟩:=HE.out w2 A1 b r2 (HQ.out.2.trans g2) st hbx;have HZ:=U (zA he (zA (HQ.out.2.trans g2) st));clear r2 g2 st hbx hvp he hs)|(go_at_call 113;refine HZ.out.1.mono ?_;rintro e w3 ⟨A2,v,rfl,p1,p2,p3,p4⟩));go_ret;rw[HE2.out];exact⟨A2,v,rfl,p1,HZ.out.2.1.trans p2,HZ.out.2.2.trans p3,p4⟩
 . have HE2:=U (rf.out.trans (aX h4))
   obtain⟨fa1,fa2,fa3,fa4,fa5⟩:=o9 (x:=kd) (c:=4) (ci:=4) (by omega);clear h4;go_enter Tryz.func176,Tryz.ntmps176;go_wp2_with fail;refine wp_region_still_tail 9 (by kernel_rfl) (by kernel_rfl) ?_;simp only[jk,jl,jm,jo]
   repeat still_step
   still_call HS.out
   repeat still_step
   still_call HM.out
   refine wpStill_nil ?_;change wpList _ _ _ _ _ w.drew;generalize w.drew=wd at*;go_wp2_with (go_at_call 45;refine HL.out.mono ?_;rintro e H ⟨rfl,q1,q2⟩;have g1:=HG.out.trans q2;obtain⟨hf,d1,d3,d4,d5⟩:=HB.out H q1 g1;have HQ:=U (zA hf (g1.trans (Grow.drew _ _)));clear q1 q2 g1 hf);refine wp_region_still_tail 7 (by kernel_rfl) (by kernel_rfl) ?_;simp only[jk,jl,jm,jo]
   repeat still_step
   refine wpStill_nil ?_;change wpList _ _ _ _ _ H.drew;generalize H.drew=Ov at*;go_wp2_with (first|(go_at_call 177;refine HQ.out.1.mono ?_;rintro e w2 ⟨b,rfl,A1,r2,g2,st,hbx,hvp⟩;obtain⟨d0,d3,d4,k0,he,hs⟩:=HE.out w2 A1 b r2 (HQ.out.2.trans g2) st hbx;have HZ:=U (zA hs (zA (HQ.out.2.trans g2) st));clear r2 g2 st hbx hvp he hs)|(go_at_call 151;refine HZ.out.1.mono ?_;rintro e w3 ⟨A2,v,rfl,p1,p2,p3,p4⟩));go_ret;rw[HE2.out];exact⟨A2,v,rfl,p1,HZ.out.2.1.trans p2,HZ.out.2.2.trans p3,p4⟩
theorem JK (hR:aD A D w) (s:Nat) (t:bB) (ht:D.ag.getD s none=some t) (c:dF) (hc:D.calls.getD s none=some c) (hmp:A.mp=0) (F x1:Nat) (hv:VL D F) (h1:1<=t.id) (h2:t.id<=65535) (hx:t.cell c.op.E=none) (hkl:t.keys.length<1000000) (hp:iL D) (aQ:D.count<4000000000000000000) (b0 b1 b2 b3 b4:Nat)
 (B0:aK A.L w b0 (R A.Y 0)) (B1:aK A.L w b1 (zu F)) (B2:aK A.L w b2 (zu x1)) (B3:aK A.L w b3 (R (A.bt s) 0)) (B4:aK A.L w b4 (R (A.bc s) 0)):
 zk 176 #[R b0 0,R b1 0,R b2 0,R b3 0,R b4 0] w (jO A w s (D.run s (.claim F x1))):=by
 by_cases hm:D.word (af F 1)=x1
 . exact Ar hR s t ht c hc hmp F x1 hv h1 h2 hx hkl hp aQ b0 b1 b2 b3 b4 B0 B1 B2 B3 B4 hm
 . exact yA hR s t ht c hc hmp F x1 hv h1 h2 hx hkl hp aQ b0 b1 b2 b3 b4 B0 B1 B2 B3 B4 hm
theorem yB (hR:aD A D w) (s:Nat) (t:bB) (ht:D.ag.getD s none=some t) (c:dF) (hc:D.calls.getD s none=some c) (F head:Nat) (V:c.op.E<64) (x:jr) (hx:t.cell c.op.E=some x) (aQ:D.count<4000000000000000000) (b0 b1 b2 b3 b4 b5:Nat)
 (B0:aK A.L w b0 (R A.Y 0)) (B1:aK A.L w b1 (R (A.bc s) 0)) (B2:aK A.L w b2 (zu head)) (B3:aK A.L w b3 (zu F)) (B4:aK A.L w b4 (R (A.bt s) 0)) (B5:aK A.L w b5 (.pointer (some ⟨(kp A D s).x,0,none⟩))) (hm:D.word (9+c.op.E)≠head):
 zk 194 #[R b0 0,R b1 0,R b2 0,R b3 0,R b4 0,R b5 0] w (jO A w s (D.run s (.dI F head))):=by
 have c0:=B0.cell;have c1:=B1.cell;have c2:=B2.cell;have c3:=B3.cell;have e2:=hR.z2;have k1:w.cell? (J (A.bc s) 1)=zt c.op.E:=hR.call hc 1 rfl;have n1:IntKind.i64.wrap (9+(c.op.E:Int))=9+(c.op.E:Int):=by rw[jH];omega
 have HL:=U (rX hR.drew (9+c.op.E) head F (9+(c.op.E:Int)) (by omega) (by rw[hR.nw];omega) aQ);have HG:=zG A.L w;have hpx:(kp A D s).x=A.bx s c.op.E:=by unfold kp;rw[aU hc]
 have aN:D.run s (.dI F head)=(D.tick,some (.over F)):=by simp[St.run,aU hc,St.bP,hm]
 rw[aN];have Z:(D.word (9+c.op.E)==head)=false:=by simpa using hm
 have hcs:D.bP (9+c.op.E) head F=D.tick:=aX hm;rw[Z,hcs] at HL;have HB:Hid (∀ H,aD A D.tick H->Grow A.L w A.L H->zk 171 #[R A.Y 0,R (A.bt s) 0,R (A.bc s) 0,.pointer (some ⟨(kp A D s).x,0,none⟩),zu F] H (aZ A H s (D.tick,.over F))∧zS H b0 0 A.Y 0∧zS H b1 0 (A.bc s) 0∧zV H b3 0 F∧zS H b4 0 (A.bt s) 0∧H.cell? (J b5 0)=some (.pointer (some ⟨(kp A D s).x,0,none⟩))):=
  fun H q g=>⟨uz q s F,(B0.grow g).cell,(B1.grow g).cell,(B3.grow g).cell,(B4.grow g).cell,(B5.grow g).cell⟩
 clear hR ht hc V hx aQ B0 B1 B2 B3 B4 B5 hm aN Z hcs hpx;generalize (kp A D s).x=kx at*;generalize c.op.E=E at*;go_enter Tryz.func194,Tryz.ntmps194;go_wp2_with fail;refine wp_region_still_tail 12 (by kernel_rfl) (by kernel_rfl) ?_;simp only[jk,jl,jm,jo]
 repeat still_step
 refine wpStill_nil ?_;change wpList _ _ _ _ _ w.drew;generalize w.drew=wd at*;go_wp2_with (first|(go_at_call 45;refine HL.out.mono ?_;rintro e H ⟨rfl,q1,q2⟩;have g1:=HG.out.trans q2;obtain⟨hf,d0,d1,d3,d4,d5⟩:=HB.out H q1 g1;have HQ:=U (zA hf g1);clear q1 q2 g1 hf)|(go_at_call 171;refine HQ.out.1.mono ?_;rintro e w2 ⟨A2,v,rfl,p1,p2,p3,p4⟩));go_ret;exact⟨A2,v,rfl,p1,HQ.out.2.trans p2,p3,p4⟩
theorem JL (l:List (Nat×jr)) (E:Nat) (x y:jr):upd (upd l E x) E y=upd l E y:=by
 unfold upd;rw[List.map_map];refine List.map_congr_left fun p hp=>?_
 by_cases h:p.1=E<;>simp[h]
theorem yC (l:List (Nat×jr)) (E:Nat) (x y:jr) (h:l.lookup E=some x):(upd l E y).lookup E=some y:=by
 induction l with
 |nil=>cases h
 |cons a l ih=>
  obtain⟨k,z⟩:=a
  by_cases V:E=k
  . subst V
    unfold upd;simp[List.lookup]
  . rw[List.lookup_cons,beq_false_of_ne V] at h
    have e:upd ((k,z)::l) E y=(k,z)::upd l E y:=by unfold upd;simp[Ne.symm V]
    rw[e,List.lookup_cons,beq_false_of_ne V];exact ih h
theorem Au (hR:aD A D w) (s:Nat) (t:bB) (ht:D.ag.getD s none=some t) (c:dF) (hc:D.calls.getD s none=some c) (F head:Nat) (V:c.op.E<64) (x:jr) (hx:t.cell c.op.E=some x) (aQ:D.count<4000000000000000000) (b0 b1 b2 b3 b4 b5:Nat)
 (B0:aK A.L w b0 (R A.Y 0)) (B1:aK A.L w b1 (R (A.bc s) 0)) (B2:aK A.L w b2 (zu head)) (B3:aK A.L w b3 (zu F)) (B4:aK A.L w b4 (R (A.bt s) 0)) (B5:aK A.L w b5 (.pointer (some ⟨(kp A D s).x,0,none⟩))) (hm:D.word (9+c.op.E)=head):
 zk 194 #[R b0 0,R b1 0,R b2 0,R b3 0,R b4 0,R b5 0] w (jO A w s (D.run s (.dI F head))):=by
 have c0:=B0.cell;have c1:=B1.cell;have c2:=B2.cell;have c3:=B3.cell;have e2:=hR.z2;have k1:w.cell? (J (A.bc s) 1)=zt c.op.E:=hR.call hc 1 rfl;have n1:IntKind.i64.wrap (9+(c.op.E:Int))=9+(c.op.E:Int):=by rw[jH];omega
 have HL:=U (rX hR.drew (9+c.op.E) head F (9+(c.op.E:Int)) (by omega) (by rw[hR.nw];omega) aQ);have HG:=zG A.L w;have hpx:(kp A D s).x=A.bx s c.op.E:=by unfold kp;rw[aU hc]
 have aN:D.run s (.dI F head)=(((D.put (9+c.op.E) F).ed s c.op.E {(D.put (9+c.op.E) F).x s c.op.E with own:=F,there:=true}),some (.fin {})):=by simp[St.run,aU hc,St.bP,hm]
 rw[aN];have Z:(D.word (9+c.op.E)==head)=true:=by simpa using hm
 have hcs:D.bP (9+c.op.E) head F=D.put (9+c.op.E) F:=aV hm;rw[Z,hcs] at HL;rw[hpx] at B5
 have HE : Hid (∀ H, aD A (D.put (9 + c.op.E) F) H -> Grow A.L w A.L H ->
     zV H (A.bx s c.op.E) 0 x.own∧H.frozen? (J (A.bx s c.op.E) 0)=false∧zB H (A.bx s c.op.E) 2 x.there∧H.frozen? (J (A.bx s c.op.E) 2)=false∧zV H b3 0 F∧zS H b5 0 (A.bx s c.op.E) 0∧(H.setCell (J (A.bx s c.op.E) 0) (zu F)).cell? (J b5 0)=zs (A.bx s c.op.E) 0∧(H.setCell (J (A.bx s c.op.E) 0) (zu F)).cell? (J b3 0)=zv F∧
     ∀ ws,((H.setCell (J (A.bx s c.op.E) 0) (zu F)).setCell (J (A.bx s c.op.E) 2) (.bool true)).drew=ws->zS ws b0 0 A.Y 0∧zS ws b1 0 (A.bc s) 0∧
     zk 113 #[R A.Y 0,R (A.bc s) 0,.agg #[I 0,I 0,.slice none 0 0,I 0,I 0]] ws (aZ A ws s (((D.put (9+c.op.E) F).ed s c.op.E {(D.put (9+c.op.E) F).x s c.op.E with own:=F,there:=true}),.fin {}))∧
     Grow A.L w A.L ws):=by
  intro H r1 g1;have ht1:(D.put (9+c.op.E) F).ag.getD s none=some t:=ht;obtain⟨a0,a1,a2⟩:=r1.BS ht1 hx;obtain⟨r3,g3⟩:=r1.qY ht1 hx {x with own:=F} 0 (zu F) rfl;refine⟨a0,r1.Es ht1 hx 0,a2,r1.Es ht1 hx 2,(B3.grow g1).cell,(B5.grow g1).cell,(B5.grow (g1.trans g3)).cell,(B3.grow (g1.trans g3)).cell,?_⟩;rintro ws rfl;have ht3:((D.put (9+c.op.E) F).bq s {t with cells:=upd t.cells c.op.E {x with own:=F}}).ag.getD s none=some {t with cells:=upd t.cells c.op.E {x with own:=F}}:=by rw[cO (cz ht1),aV rfl]
  have hx3:({t with cells:=upd t.cells c.op.E {x with own:=F}}:bB).cell c.op.E=some {x with own:=F}:=yC _ _ _ _ hx;obtain⟨r4,g4⟩:=r3.qY ht3 hx3 {x with own:=F,there:=true} 2 (.bool true) rfl;have eS:((D.put (9+c.op.E) F).bq s {t with cells:=upd t.cells c.op.E {x with own:=F}}).bq s {t with cells:=upd (upd t.cells c.op.E {x with own:=F}) c.op.E {x with own:=F,there:=true}}=((D.put (9+c.op.E) F).ed s c.op.E {(D.put (9+c.op.E) F).x s c.op.E with own:=F,there:=true}):=by
   unfold St.ed St.x;rw[bQ ht1,hx,JL];unfold St.bq;simp
  have r5:=r4.drew;rw[show (((D.put (9+c.op.E) F).bq s {t with cells:=upd t.cells c.op.E {x with own:=F}}).bq s {({t with cells:=upd t.cells c.op.E {x with own:=F}}:bB) with cells:=upd ({t with cells:=upd t.cells c.op.E {x with own:=F}}:bB).cells c.op.E {x with own:=F,there:=true}})=((D.put (9+c.op.E) F).ed s c.op.E {(D.put (9+c.op.E) F).x s c.op.E with own:=F,there:=true}) from eS] at r5;have g5:=((g1.trans g3).trans g4).trans (Grow.drew _ _);have he:=iE r5 s {} 0 0 0 0 (.slice none 0 0) rfl (.inr ⟨rfl,rfl⟩);exact⟨(B0.grow g5).cell,(B1.grow g5).cell,he,g5⟩
 clear hR ht hc V hx aQ B0 B1 B2 B3 B4 B5 hm aN Z hcs hpx;generalize ((D.put (9+c.op.E) F).ed s c.op.E {(D.put (9+c.op.E) F).x s c.op.E with own:=F,there:=true})=az at*;generalize A.bx s c.op.E=kx at*;generalize c.op.E=E at*;go_enter Tryz.func194,Tryz.ntmps194;go_wp2_with fail;refine wp_region_still_tail 12 (by kernel_rfl) (by kernel_rfl) ?_;simp only[jk,jl,jm,jo]
 repeat still_step
 refine wpStill_nil ?_;change wpList _ _ _ _ _ w.drew;generalize w.drew=wd at*;go_wp2_with (go_at_call 45;refine HL.out.mono ?_;rintro e H ⟨rfl,q1,q2⟩;have g1:=HG.out.trans q2;obtain⟨a0,z0,a2,z2,d3,d5,f5,f3,hz⟩:=HE.out H q1 g1;have HZ:=U hz;clear q1 q2 g1 hz)
 go_region
 generalize hws:World.drew _=ws;obtain⟨d0,d1,hf,gg⟩:=HZ.out ws hws;have HF:=U (zA hf gg);clear hf gg hws a0 z0 a2 z2 d3 d5 f5 f3;go_wp2_with (go_at_call 113;refine HF.out.1.mono ?_;rintro e w3 ⟨A2,v,rfl,p1,p2,p3,p4⟩);go_ret;exact⟨A2,v,rfl,p1,HF.out.2.trans p2,p3,p4⟩
theorem JM (hR:aD A D w) (s:Nat) (t:bB) (ht:D.ag.getD s none=some t) (c:dF) (hc:D.calls.getD s none=some c) (F head:Nat) (V:c.op.E<64) (x:jr) (hx:t.cell c.op.E=some x) (aQ:D.count<4000000000000000000) (b0 b1 b2 b3 b4 b5:Nat)
 (B0:aK A.L w b0 (R A.Y 0)) (B1:aK A.L w b1 (R (A.bc s) 0)) (B2:aK A.L w b2 (zu head)) (B3:aK A.L w b3 (zu F)) (B4:aK A.L w b4 (R (A.bt s) 0)) (B5:aK A.L w b5 (.pointer (some ⟨(kp A D s).x,0,none⟩))):
 zk 194 #[R b0 0,R b1 0,R b2 0,R b3 0,R b4 0,R b5 0] w (jO A w s (D.run s (.dI F head))):=by
 by_cases hm:D.word (9+c.op.E)=head
 . exact Au hR s t ht c hc F head V x hx aQ b0 b1 b2 b3 b4 b5 B0 B1 B2 B3 B4 B5 hm
 . exact yB hR s t ht c hc F head V x hx aQ b0 b1 b2 b3 b4 b5 B0 B1 B2 B3 B4 B5 hm
def pU (D:St) (s:Nat) (t:bB) (x:jr) (kind:Nat):St×K:=
 if x.there∧kind=2 then (D,.fin {e:=12}) else if x.there=false∧kind≠2 then (D,.fin {e:=11}) else if x.own=0 then D.slot s true 0 0 else (D,.again (if kind=4 then mine t else ever))
theorem Av (hR:aD A D w) (s:Nat) (t:bB) (ht:D.ag.getD s none=some t) (c:dF) (hc:D.calls.getD s none=some c) (hmp:A.mp=0) (x:jr) (hx:t.cell c.op.E=some x) (h1:1<=t.id) (h2:t.id<=65535) (hp:iL D):
 zk 129 #[R A.Y 0,R (A.bt s) 0,R (A.bc s) 0,R (A.bx s c.op.E) 0] w (aZ A w s (pU D s t x c.op.kind)):=by
 obtain⟨r3,g3,f0,f1,f2⟩:=iO hR #[R A.Y 0] 32 #[R (A.bc s) 0] 105 #[R (A.bx s c.op.E) 0] 223;have c0:=f0.cell 0 (v:=R A.Y 0) rfl;have c1:=f1.cell 0 (v:=R (A.bc s) 0) rfl;have c2:=f2.cell 0 (v:=R (A.bx s c.op.E) 0) rfl;obtain⟨a0,a1,a2⟩:=r3.BS ht hx;have k0:=r3.call hc 0 (v:=I c.op.kind) rfl;have QW:=U (iE r3 s {e:=12} 12 0 0 0 (.slice none 0 0) rfl (.inr ⟨rfl,rfl⟩));have QX:=U (iE r3 s {e:=11} 11 0 0 0 (.slice none 0 0) rfl (.inr ⟨rfl,rfl⟩));have hsl:zk 151 #[R A.Y 0,R (A.bt s) 0,R (A.bc s) 0,R (A.bx s c.op.E) 0,zu 0,.slice none 0 0] (((w.alloc (.cells #[R A.Y 0] 32)).alloc (.cells #[R (A.bc s) 0] 105)).alloc (.cells #[R (A.bx s c.op.E) 0] 223)) (aZ A (((w.alloc (.cells #[R A.Y 0] 32)).alloc (.cells #[R (A.bc s) 0] 105)).alloc (.cells #[R (A.bx s c.op.E) 0] 223)) s (D.slot s true 0 0)):=by
  have h:=pQ r3 s c hc true 0 0 (.slice none 0 0) (dQ.nil _ _ _) (.inl rfl) hmp hp.n hp.list hp.tag;have ex:(kp A D s).xo true=R (A.bx s c.op.E) 0:=by show ptr (A.bx s (D.c s).op.E)=_;rw[aU hc]
  rw[ex] at h;exact h
 have Ta:=U hsl;have HG:=U g3;have HM:Hid (∀ G,aD A D G->zk 126 #[R (A.bt s) 0] G fun e H=>e=.returned (zu ((mine t:Nat):Int))∧G=H):=fun G r=>og r s t ht h1 h2
 have HF:Hid (∀ G,zk 127 #[] G fun e H=>e=.returned (zu 2305843009213693952)∧G=H):=fun G=>Word.nW G
 obtain⟨r4,g4,f4⟩:=cB r3 #[zu 2305843009213693952] 25;have z3:(((w.alloc (.cells #[R A.Y 0] 32)).alloc (.cells #[R (A.bc s) 0] 105)).alloc (.cells #[R (A.bx s c.op.E) 0] 223)).heap.size=w.heap.size+1+1+1:=by simp
 rw[z3] at f4;have c4:=f4.cell 0 (v:=zu 2305843009213693952) rfl;have nz:=f4.frozen 0;have k4:=r4.call hc 0 (v:=I c.op.kind) rfl;have c14:=(f1.grow g4).cell 0 (v:=R (A.bc s) 0) rfl;have Uw:Hid (∀ n:Nat,aD A D ((((w.alloc (.cells #[R A.Y 0] 32)).alloc (.cells #[R (A.bc s) 0] 105)).alloc (.cells #[R (A.bx s c.op.E) 0] 223)).alloc (.cells #[zu n] 25))∧Grow A.L (((w.alloc (.cells #[R A.Y 0] 32)).alloc (.cells #[R (A.bc s) 0] 105)).alloc (.cells #[R (A.bx s c.op.E) 0] 223)) A.L ((((w.alloc (.cells #[R A.Y 0] 32)).alloc (.cells #[R (A.bc s) 0] 105)).alloc (.cells #[R (A.bx s c.op.E) 0] 223)).alloc (.cells #[zu n] 25))∧Fix A.L ((((w.alloc (.cells #[R A.Y 0] 32)).alloc (.cells #[R (A.bc s) 0] 105)).alloc (.cells #[R (A.bx s c.op.E) 0] 223)).alloc (.cells #[zu n] 25)) (w.heap.size+1+1+1) (.cells #[zu n] 25)):=fun n=>by
  obtain⟨k1,k2,k3⟩:=cB r3 #[zu n] 25;rw[z3] at k3;exact⟨k1,k2,k3⟩
 have HZ:=U (zA r4 (zA (g3.trans g4) (zA f0.box (zA f1.box (zA f2.box f4)))));have hkx:(kp A D s).x=A.bx s c.op.E:=by show A.bx s (D.c s).op.E=_;rw[aU hc]
 have QY:=U hkx;have QZ:Hid (aK A.L (((w.alloc (.cells #[R A.Y 0] 32)).alloc (.cells #[R (A.bc s) 0] 105)).alloc (.cells #[R (A.bx s c.op.E) 0] 223)) w.heap.size (R A.Y 0)∧aK A.L (((w.alloc (.cells #[R A.Y 0] 32)).alloc (.cells #[R (A.bc s) 0] 105)).alloc (.cells #[R (A.bx s c.op.E) 0] 223)) (w.heap.size+1) (R (A.bc s) 0)∧aK A.L (((w.alloc (.cells #[R A.Y 0] 32)).alloc (.cells #[R (A.bc s) 0] 105)).alloc (.cells #[R (A.bx s c.op.E) 0] 223)) (w.heap.size+1+1) (R (A.bx s c.op.E) 0)∧Grow A.L (((w.alloc (.cells #[R A.Y 0] 32)).alloc (.cells #[R (A.bc s) 0] 105)).alloc (.cells #[R (A.bx s c.op.E) 0] 223)) A.L ((((w.alloc (.cells #[R A.Y 0] 32)).alloc (.cells #[R (A.bc s) 0] 105)).alloc (.cells #[R (A.bx s c.op.E) 0] 223)).alloc (.cells #[zu 2305843009213693952] 25))):=⟨f0.box,f1.box,f2.box,g4⟩
 have HR4:=U r4;unfold pU;clear hR ht hc hmp hx h1 h2 hp r3 g3 f0 f1 f2 hsl r4 g4 f4 z3 hkx;generalize mine t=mt at*;generalize c.op.kind=kd at*;generalize x.own=ow at*;generalize x.old=ol at*;generalize x.there=th at*
 cases th with
 |true=>
  by_cases k2:kd=2
  . rw[aV ⟨rfl,k2⟩]
    obtain⟨OU,OV,OW,OX,OY⟩:=qX (x:=kd) (c:=2) (ci:=2) (by omega);clear k2;go_enter Tryz.func129,Tryz.ntmps129;go_wp2_with (go_at_call 113;refine QW.out.mono ?_;rintro e w4 ⟨A2,v,rfl,p1,p2,p3,p4⟩);go_ret;exact⟨A2,v,rfl,p1,HG.out.trans p2,p3,p4⟩
  . rw[aX (fun h=>k2 h.2),aX (fun h=>by cases h.1)]
    obtain⟨OU,OV,OW,OX,OY⟩:=o9 (x:=kd) (c:=2) (ci:=2) (by omega)
    by_cases ho:ow=0
    . rw[aV ho]
      obtain⟨Q0,Q3,Q4,Q5,Q6⟩:=qX (x:=ow) (c:=0) (ci:=0) (by omega);clear ho;go_enter Tryz.func129,Tryz.ntmps129;go_wp2_with (go_at_call 151;refine Ta.out.mono ?_;rintro e w4 ⟨A2,v,rfl,p1,p2,p3,p4⟩);go_ret;exact⟨A2,v,rfl,p1,HG.out.trans p2,p3,p4⟩
    . rw[aX ho]
      obtain⟨Q0,Q3,Q4,Q5,Q6⟩:=o9 (x:=ow) (c:=0) (ci:=0) (by omega);clear ho
      by_cases Qv:kd=4
      . rw[aV Qv]
        obtain⟨Tc,Td,Te,Tf,Tg⟩:=qX (x:=kd) (c:=4) (ci:=4) (by omega);clear Qv k2;go_enter Tryz.func129,Tryz.ntmps129;go_wp2_with (first|(go_at_call 127;refine (HF.out _).mono ?_;rintro e G ⟨rfl,rfl⟩)|(go_at_call 126;refine (HM.out _ HR4.out).mono ?_;rintro e G ⟨rfl,rfl⟩));go_ret;obtain⟨r4,g4,f0,f1,f2,f4⟩:=HZ.out;obtain⟨b0,b1,b2,gg⟩:=QZ.out;obtain⟨r5,g5,f5⟩:=Uw.out mt;refine⟨A,_,rfl,r5,HG.out.trans g5,bL.refl _ _,_,_,_,_,rfl,b0.grow g5,?_,f5.box,b1.grow g5⟩;show aK _ _ _ (ptr (kp A D s).x);rw[QY.out];exact b2.grow g5
      . rw[aX Qv]
        obtain⟨Tc,Td,Te,Tf,Tg⟩:=o9 (x:=kd) (c:=4) (ci:=4) (by omega);clear Qv k2;go_enter Tryz.func129,Tryz.ntmps129;go_wp2_with (go_at_call 127;refine (HF.out _).mono ?_;rintro e G ⟨rfl,rfl⟩);go_ret;obtain⟨r4,g4,f0,f1,f2,f4⟩:=HZ.out;obtain⟨b0,b1,b2,gg⟩:=QZ.out;refine⟨A,_,rfl,r4,g4,bL.refl _ _,_,_,_,_,rfl,b0.grow gg,?_,f4.box,b1.grow gg⟩;show aK _ _ _ (ptr (kp A D s).x);rw[QY.out];exact b2.grow gg
 |false=>
  by_cases k2:kd=2
  . rw[aX (fun h=>by cases h.1),aX (fun h=>h.2 k2)]
    obtain⟨OU,OV,OW,OX,OY⟩:=qX (x:=kd) (c:=2) (ci:=2) (by omega);obtain⟨Tc,Td,Te,Tf,Tg⟩:=o9 (x:=kd) (c:=4) (ci:=4) (by omega)
    by_cases ho:ow=0
    . rw[aV ho]
      obtain⟨Q0,Q3,Q4,Q5,Q6⟩:=qX (x:=ow) (c:=0) (ci:=0) (by omega);clear ho;go_enter Tryz.func129,Tryz.ntmps129;go_wp2_with (go_at_call 151;refine Ta.out.mono ?_;rintro e w4 ⟨A2,v,rfl,p1,p2,p3,p4⟩);go_ret;exact⟨A2,v,rfl,p1,HG.out.trans p2,p3,p4⟩
    . rw[aX ho]
      obtain⟨Q0,Q3,Q4,Q5,Q6⟩:=o9 (x:=ow) (c:=0) (ci:=0) (by omega);clear ho;rw[aX (by omega)];clear k2;go_enter Tryz.func129,Tryz.ntmps129;go_wp2_with (go_at_call 127;refine (HF.out _).mono ?_;rintro e G ⟨rfl,rfl⟩);go_ret;obtain⟨r4,g4,f0,f1,f2,f4⟩:=HZ.out;obtain⟨b0,b1,b2,gg⟩:=QZ.out;refine⟨A,_,rfl,r4,g4,bL.refl _ _,_,_,_,_,rfl,b0.grow gg,?_,f4.box,b1.grow gg⟩;show aK _ _ _ (ptr (kp A D s).x);rw[QY.out];exact b2.grow gg
  . rw[aX (fun h=>by cases h.1),aV ⟨rfl,k2⟩]
    obtain⟨OU,OV,OW,OX,OY⟩:=o9 (x:=kd) (c:=2) (ci:=2) (by omega);clear k2;go_enter Tryz.func129,Tryz.ntmps129;go_wp2_with (go_at_call 113;refine QX.out.mono ?_;rintro e w4 ⟨A2,v,rfl,p1,p2,p3,p4⟩);go_ret;exact⟨A2,v,rfl,p1,HG.out.trans p2,p3,p4⟩
end Go.Proofs.YthicolbbmjfkfaaGreat.Em
