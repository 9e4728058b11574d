import Derived.Test.YthicolbbmjfkfaaGreatQh10
import Derived.Test.YthicolbbmjfkfaaGreatQh9
set_option linter.unusedVariables false
set_option linter.unusedSimpArgs false
set_option maxRecDepth 100000
set_option maxHeartbeats 1600000
namespace Go.Proofs.YthicolbbmjfkfaaGreat.Em
open Go.ChangeShapes Go.WideShapes Go.ChangeAt Go.RowKit En
variable {A:au} {D:St} {w:World}
theorem Af (hR:aD A D w) (s:Nat) (hmp:A.mp=0) (bh:Nat) (hu:dw) (hh:dE (kp A D s) A.L w bh hu) (F mb:Nat) (HT:mb=0->uo D s hu F):
 zk 211 #[R bh 0,zu F,I mb] w (aZ A w s (D.seen s hu F mb)):=by
 obtain⟨r1,g1,f0,f1,f2⟩:=iO hR #[R bh 0] 246 #[zu F] 25 #[I mb] 3;have c0:=f0.cell 0 (v:=R bh 0) rfl;have c1:=f1.cell 0 (v:=zu F) rfl;have c2:=f2.cell 0 (v:=I mb) rfl;have qA:=hh.grow g1
 by_cases h0:mb=0
 . have e0:D.seen s hu F mb=D.thn s hu F:=by unfold St.seen;rw[aV h0]
   rw[e0];obtain⟨vt,TT,fh,hth⟩:=qA;obtain⟨fv,cv,rfl,hent⟩:=hth.enter;obtain⟨fa1,fa2,fa3,fa4,fa5⟩:=qX (x:=mb) (c:=0) (ci:=0) (by omega);have h4:=fh.cell 4 (v:=.func (.func fv) #[] cv) rfl;have gd:=Grow.drew A.L (((w.alloc (.cells #[R bh 0] 246)).alloc (.cells #[zu F] 25)).alloc (.cells #[I mb] 3));have hf:=HT h0 A _ r1.drew hmp _ fv cv r1.drew (Grow.refl _ _) (hth.grow gd);have HF:=U (zA hf (g1.trans gd));clear hR hh r1 g1 f0 f1 f2 fh hth hf HT h0 e0 gd hmp;go_enter Tryz.func211,Tryz.ntmps211;go_wp2_with fail;generalize (((w.alloc _).alloc _).alloc _)=w3 at*;refine wp_region_still_tail 5 (by kernel_rfl) (by kernel_rfl) ?_;simp only[jk,jl,jm,jo]
   repeat still_step
   refine wpStill_nil ?_;change wpList _ _ _ _ _ w3.drew;generalize w3.drew=wd at*;go_wp2_with fail;refine HF.out.1.mono ?_;rintro e w4 ⟨A',v,rfl,q1,q2,q3,q4⟩;go_wp2_with fail;go_ret;exact⟨A',v,rfl,q1,HF.out.2.trans q2,q3,q4⟩
 . have e0:D.seen s hu F mb=(D,.seen hu F mb):=by unfold St.seen;rw[aX h0]
   rw[e0];obtain⟨fa1,fa2,fa3,fa4,fa5⟩:=o9 (x:=mb) (c:=0) (ci:=0) (by omega);have HQ:=U (zA r1 (zA g1 (zA f0 (zA f1 (zA f2 qA)))));clear hR hh r1 g1 f0 f1 f2 qA HT h0 e0 hmp;go_enter Tryz.func211,Tryz.ntmps211;go_wp2_with fail;go_ret;obtain⟨r1,g1,f0,f1,f2,qA⟩:=HQ.out;exact⟨A,_,rfl,r1,g1,bL.refl _ _,_,_,_,rfl,⟨_,f0.box,qA⟩,f2.box,f1.box⟩
theorem JB (hR:aD A D w) (s:Nat) (hmp:A.mp=0) (t:bB) (ht:D.ag.getD s none=some t) (hu:dw) (F mb id b0 b1 b2 b3:Nat) (B0:fT (kp A D s) A.L w b0 hu) (B1:aK A.L w b1 (I id)) (B2:aK A.L w b2 (zu F)) (B3:aK A.L w b3 (I mb)) (hid:id<=65535) (hpl:D.place id<D.words.length) (hw:D.word (D.place id)<18446744073709551616) (hbn:t.aJ.length<1000000) (htl:D.aP.length<1000000) (aQ:D.count<4000000000000000000) (HT:mb=0->uo D.tick s hu F):
 zk 225 #[R b0 0,R b1 0,R b2 0,R b3 0] w (jO A w s (D.run s (.eY hu F mb id))):=by
 obtain⟨bh,X0,hh0⟩:=B0;obtain⟨vt,TT,fh,hth⟩:=_root_.id hh0;have c0:=X0.cell;have c1:=B1.cell;have h0:w.cell? (J bh 0)=zs A.Y 0:=fh.cell 0 rfl;have e2:=hR.z2;have HK:Hid (∀ G,Kp A w G->zS G b0 0 bh 0∧zT G b1 0 id∧zS G bh 0 A.Y 0∧zS G A.Y 2 A.ba 0):=by
  obtain⟨_,x0⟩:=X0;obtain⟨_,x1⟩:=B1;exact fun G k=>⟨k.fix _ _ _ x0.1 c0,k.fix _ _ _ x1.1 c1,k.fix _ _ _ fh.1 h0,k.ea⟩
 have HP:=U (fB hR.drew id hid);have HL:=U (gM hR.drew (D.place id) hpl aQ);have HU:=U (fun G=>jN (D.word (D.place id)) hw G);have HG:=zG A.L w;have HB:Hid (∀ H,aD A D.tick H->Grow A.L w A.L H->zS H b0 0 bh 0∧zT H b1 0 id∧zV H b2 0 F∧zT H b3 0 mb∧zS H bh 0 A.Y 0∧zS H bh 1 (A.bt s) 0∧zV H bh 3 hu.at_):=by
  intro H q g;exact⟨(X0.grow g).cell,(B1.grow g).cell,(B2.grow g).cell,(B3.grow g).cell,(fh.grow g).cell 0 rfl,(fh.grow g).cell 1 rfl,(fh.grow g).cell 3 rfl⟩
 have Qq:Hid (∀ A' bE H,Grow A.L w A'.L H->kp A' bE s=kp A D s->dE (kp A' bE s) A'.L H bh hu):=fun A' bE H g e=>by rw[e];exact hh0.grow g
 have QP:Hid (∀ H,aD A D.tick H->zk 224 #[R A.Y 0,R (A.bt s) 0,I id] H.drew (Does A H.drew s (D.tick.bind s id) (.tuple #[]))):=fun H q=>Ad q.drew s t ht id hid hbn htl
 have hbc:(D.tick.bind s id).calls=D.calls:=by unfold St.bind;split<;>rfl
 have hcc:((D.tick.bind s id).c s)=D.c s:=by unfold St.c;rw[hbc]
 have La:=U hcc;have QQ:Hid (∀ (A':au) H,Grow A.L w A'.L H->zS H b0 0 bh 0∧zV H b2 0 F∧H.cell? (J bh 4)=some vt):=fun A' H g=>⟨(X0.grow g).cell,(B2.grow g).cell,(fh.grow g).cell 4 rfl⟩
 have aN:D.run s (.eY hu F mb id)=if gD (D.word (D.place id))=0∨hu.at_<gD (D.word (D.place id))∨bA (D.word (D.place id))=4 then ((D.tick.seen s hu F mb).1,some (D.tick.seen s hu F mb).2) else if bA (D.word (D.place id))=2 then (D.tick.bind s id,some (.older hu F)) else (D.tick,some (.older hu F)):=by
  simp only[St.run]
 rw[aN];have uu:Hid (∀ H,aD A D.tick H->Grow A.L w A.L H->zk 211 #[R bh 0,zu F,I mb] H (aZ A H s (D.tick.seen s hu F mb))):=fun H q g=>Af q s hmp bh hu (show dE (kp A D.tick s) A.L H bh hu from hh0.grow g) F mb HT
 have Ae:Hid (∀ A' bE H,aD A' bE H->dE (kp A' bE s) A'.L H bh hu->zk 201 #[R bh 0,zu F] H (aZ A' H s (bE,.older hu F))):=fun A' bE H q V=>kV q s bh hu V F
 clear hR hid hpl hw aQ X0 B1 B2 B3 fh hth hh0 aN hmp HT hbn htl hbc hcc ht;generalize D.word (D.place id)=x at*;generalize hst:bA x=st at*;generalize hen:gD x=en at*;generalize hu.at_=ha at*;clear hst hen
 by_cases EG:en=0
 . rw[aV (Or.inl EG)]
   obtain⟨fa1,fa2,fa3,fa4,fa5⟩:=qX (x:=en) (c:=0) (ci:=0) (by omega);clear EG;go_enter Tryz.func225,Tryz.ntmps225;go_wp2_with fail
   go_region_held3 (fun G=>zS G b0 0 bh 0∧zT G b1 0 id∧zS G bh 0 A.Y 0∧zS G A.Y 2 A.ba 0)
    (first|exact⟨c0,c1,h0,e2⟩|assumption|exact HK.out _ (Kp.of (by assumption) (by assumption) (by assumption)))
    (first|(go_at_call 48;refine HP.out.mono ?_;rintro e G ⟨rfl,rfl⟩)|(go_at_call 42;refine HL.out.mono ?_;rintro e H ⟨rfl,q1,q2⟩;have q4:=HG.out.trans q2;have q3:=bL.refl A s;clear q2)|(go_at_call 109;refine (HU.out _).mono ?_;rintro e G ⟨rfl,rfl⟩))
   have HQ:=U (zA (‹aD A D.tick _›) (‹Grow A.L w A.L _›));obtain⟨d0,d1,d2,d3,d4,d5,d6⟩:=HB.out _ HQ.out.1 HQ.out.2;go_wp2_with (go_at_call 211;refine (uu.out _ HQ.out.1 HQ.out.2).mono ?_;rintro e w2 ⟨A2,v,rfl,p1,p2,p3,p4⟩);go_ret;exact⟨A2,v,rfl,p1,HQ.out.2.trans p2,p3,p4⟩
 . have fa1:((en:Int)==0)=false:=by simp<;>omega
   have fa2:((en:Int)=0)=False:=by simp<;>omega
   have fa3:(en=0)=False:=by simp<;>omega
   have fa4:(en==0)=false:=by simp<;>omega
   have fa5:((en:Int) !=0)=true:=by simp<;>omega
   by_cases hlt:ha<en
   . rw[aV (Or.inr (Or.inl hlt))]
     obtain⟨Gq,Gr,Gs,Gt⟩:=QF (x:=ha) (c:=en) (xi:=(ha:Int)) (ci:=(en:Int)) (by omega);clear EG hlt;go_enter Tryz.func225,Tryz.ntmps225;go_wp2_with fail
     go_region_held3 (fun G=>zS G b0 0 bh 0∧zT G b1 0 id∧zS G bh 0 A.Y 0∧zS G A.Y 2 A.ba 0)
      (first|exact⟨c0,c1,h0,e2⟩|assumption|exact HK.out _ (Kp.of (by assumption) (by assumption) (by assumption)))
      (first|(go_at_call 48;refine HP.out.mono ?_;rintro e G ⟨rfl,rfl⟩)|(go_at_call 42;refine HL.out.mono ?_;rintro e H ⟨rfl,q1,q2⟩;have q4:=HG.out.trans q2;have q3:=bL.refl A s;clear q2)|(go_at_call 109;refine (HU.out _).mono ?_;rintro e G ⟨rfl,rfl⟩))
     have HQ:=U (zA (‹aD A D.tick _›) (‹Grow A.L w A.L _›));obtain⟨d0,d1,d2,d3,d4,d5,d6⟩:=HB.out _ HQ.out.1 HQ.out.2;go_wp2_with (go_at_call 211;refine (uu.out _ HQ.out.1 HQ.out.2).mono ?_;rintro e w2 ⟨A2,v,rfl,p1,p2,p3,p4⟩);go_ret;exact⟨A2,v,rfl,p1,HQ.out.2.trans p2,p3,p4⟩
   . have Gq:decide ((ha:Int)<(en:Int))=false:=by simp<;>omega
     have Gr:((ha:Int)<(en:Int))=False:=by simp<;>omega
     have Gs:(ha<en)=False:=by simp<;>omega
     have Gt:decide (ha<en)=false:=by simp<;>omega
     by_cases h4:st=4
     . rw[aV (Or.inr (Or.inr h4))]
       obtain⟨Jv,Jw,Jy,Jz,JA⟩:=qX (x:=st) (c:=4) (ci:=4) (by omega);clear EG hlt h4;go_enter Tryz.func225,Tryz.ntmps225;go_wp2_with fail
       go_region_held3 (fun G=>zS G b0 0 bh 0∧zT G b1 0 id∧zS G bh 0 A.Y 0∧zS G A.Y 2 A.ba 0)
        (first|exact⟨c0,c1,h0,e2⟩|assumption|exact HK.out _ (Kp.of (by assumption) (by assumption) (by assumption)))
        (first|(go_at_call 48;refine HP.out.mono ?_;rintro e G ⟨rfl,rfl⟩)|(go_at_call 42;refine HL.out.mono ?_;rintro e H ⟨rfl,q1,q2⟩;have q4:=HG.out.trans q2;have q3:=bL.refl A s;clear q2)|(go_at_call 109;refine (HU.out _).mono ?_;rintro e G ⟨rfl,rfl⟩))
       have HQ:=U (zA (‹aD A D.tick _›) (‹Grow A.L w A.L _›));obtain⟨d0,d1,d2,d3,d4,d5,d6⟩:=HB.out _ HQ.out.1 HQ.out.2;go_wp2_with (go_at_call 211;refine (uu.out _ HQ.out.1 HQ.out.2).mono ?_;rintro e w2 ⟨A2,v,rfl,p1,p2,p3,p4⟩);go_ret;exact⟨A2,v,rfl,p1,HQ.out.2.trans p2,p3,p4⟩
     . rw[aX (by omega)]
       obtain⟨Jv,Jw,Jy,Jz,JA⟩:=o9 (x:=st) (c:=4) (ci:=4) (by omega)
       by_cases h2:st=2
       . rw[aV h2]
         obtain⟨fd1,L6,L8,L9,Ma⟩:=qX (x:=st) (c:=2) (ci:=2) (by omega);clear EG hlt h4 h2;go_enter Tryz.func225,Tryz.ntmps225;go_wp2_with fail
         go_region_held3 (fun G=>zS G b0 0 bh 0∧zT G b1 0 id∧zS G bh 0 A.Y 0∧zS G A.Y 2 A.ba 0)
          (first|exact⟨c0,c1,h0,e2⟩|assumption|exact HK.out _ (Kp.of (by assumption) (by assumption) (by assumption)))
          (first|(go_at_call 48;refine HP.out.mono ?_;rintro e G ⟨rfl,rfl⟩)|(go_at_call 42;refine HL.out.mono ?_;rintro e H ⟨rfl,q1,q2⟩;have q4:=HG.out.trans q2;have q3:=bL.refl A s;clear q2)|(go_at_call 109;refine (HU.out _).mono ?_;rintro e G ⟨rfl,rfl⟩))
         have HQ:=U (zA (‹aD A D.tick _›) (‹Grow A.L w A.L _›));obtain⟨d0,d1,d2,d3,d4,d5,d6⟩:=HB.out _ HQ.out.1 HQ.out.2;go_wp2_with fail;refine wp_region_still_tail 9 (by kernel_rfl) (by kernel_rfl) ?_;simp only[jk,jl,jm,jo]
         repeat still_step
         refine wpStill_nil ?_;change wpList _ _ _ _ _ H.drew;have JC:=U (HQ.out.2.trans (Grow.drew A.L H));have Mc:=U (QP.out H HQ.out.1);generalize H.drew=wd at*;go_wp2_with (first|(go_at_call 224;refine Mc.out.mono ?_;rintro e w2 ⟨rfl,A2,p1,p2,p3,p4,p5⟩;have gg:=JC.out.trans p2;have ek:kp A2 (D.tick.bind s id) s=kp A D s:=yc p3 p4 p5 (by rw[La.out]) (by rw[La.out]);have Us:=U (Ae.out A2 _ w2 p1 (Qq.out A2 _ w2 gg ek));obtain⟨d0,d2,d4⟩:=QQ.out A2 w2 gg;have Gu:=U (zA gg p3);clear p1 p2 p3 p4 p5 gg ek)|(go_at_call 201;refine Us.out.mono ?_;rintro e w3 ⟨A3,v,rfl,p1,p2,p3,p4⟩));go_ret;exact⟨A3,v,rfl,p1,Gu.out.1.trans p2,Gu.out.2.trans p3,p4⟩
       . rw[aX h2]
         obtain⟨fd1,L6,L8,L9,Ma⟩:=o9 (x:=st) (c:=2) (ci:=2) (by omega);clear EG hlt h4 h2;go_enter Tryz.func225,Tryz.ntmps225;go_wp2_with fail
         go_region_held3 (fun G=>zS G b0 0 bh 0∧zT G b1 0 id∧zS G bh 0 A.Y 0∧zS G A.Y 2 A.ba 0)
          (first|exact⟨c0,c1,h0,e2⟩|assumption|exact HK.out _ (Kp.of (by assumption) (by assumption) (by assumption)))
          (first|(go_at_call 48;refine HP.out.mono ?_;rintro e G ⟨rfl,rfl⟩)|(go_at_call 42;refine HL.out.mono ?_;rintro e H ⟨rfl,q1,q2⟩;have q4:=HG.out.trans q2;have q3:=bL.refl A s;clear q2)|(go_at_call 109;refine (HU.out _).mono ?_;rintro e G ⟨rfl,rfl⟩))
         have HQ:=U (zA (‹aD A D.tick _›) (‹Grow A.L w A.L _›));obtain⟨d0,d1,d2,d3,d4,d5,d6⟩:=HB.out _ HQ.out.1 HQ.out.2;go_wp2_with (go_at_call 201;refine (Ae.out A D.tick _ HQ.out.1 (Qq.out A D.tick _ HQ.out.2 rfl)).mono ?_;rintro e w2 ⟨A2,v,rfl,p1,p2,p3,p4⟩);go_ret;exact⟨A2,v,rfl,p1,HQ.out.2.trans p2,p3,p4⟩
theorem Md (hR:aD A D w) (s:Nat) (hmp:A.mp=0) (t:bB) (ht:D.ag.getD s none=some t) (hu:dw) (F mb b0 b1 b2:Nat) (B0:fT (kp A D s) A.L w b0 hu) (B1:aK A.L w b1 (I mb)) (B2:aK A.L w b2 (zu F)) (hid:mb<=65535) (hpl:D.place mb<D.words.length) (hw:D.word (D.place mb)<18446744073709551616) (hbn:t.aJ.length<1000000) (htl:D.aP.length<1000000) (aQ:D.count<4000000000000000000) (HT:uo (if bA (D.word (D.place mb))=2 then D.tick.bind s mb else D.tick) s hu F) (QR:∀ A',aD A' (D.tick.bind s mb) w->True):
 zk 223 #[R b0 0,R b1 0,R b2 0] w (jO A w s (D.run s (.seen hu F mb))):=by
 obtain⟨bh,X0,hh0⟩:=B0;obtain⟨vt,TT,fh,hth⟩:=_root_.id hh0;have c0:=X0.cell;have c1:=B1.cell;have h0:w.cell? (J bh 0)=zs A.Y 0:=fh.cell 0 rfl;have e2:=hR.z2;have HK:Hid (∀ G,Kp A w G->zS G b0 0 bh 0∧zT G b1 0 mb∧zS G bh 0 A.Y 0∧zS G A.Y 2 A.ba 0):=by
  obtain⟨_,x0⟩:=X0;obtain⟨_,x1⟩:=B1;exact fun G k=>⟨k.fix _ _ _ x0.1 c0,k.fix _ _ _ x1.1 c1,k.fix _ _ _ fh.1 h0,k.ea⟩
 have HP:=U (fB hR.drew mb hid);have HL:=U (gM hR.drew (D.place mb) hpl aQ);have HU:=U (fun G=>jN (D.word (D.place mb)) hw G);have HG:=zG A.L w;have HB:Hid (∀ H,aD A D.tick H->Grow A.L w A.L H->zS H b0 0 bh 0∧zT H b1 0 mb∧zV H b2 0 F∧zS H bh 0 A.Y 0∧zS H bh 1 (A.bt s) 0∧H.cell? (J bh 4)=some (vt)):=by
  intro H q g;exact⟨(X0.grow g).cell,(B1.grow g).cell,(B2.grow g).cell,(fh.grow g).cell 0 rfl,(fh.grow g).cell 1 rfl,(fh.grow g).cell 4 rfl⟩
 have Qq:Hid (∀ A' bE H,Grow A.L w A'.L H->kp A' bE s=kp A D s->dE (kp A' bE s) A'.L H bh hu):=fun A' bE H g e=>by rw[e];exact hh0.grow g
 have QP:Hid (∀ H,aD A D.tick H->zk 224 #[R A.Y 0,R (A.bt s) 0,I mb] H.drew (Does A H.drew s (D.tick.bind s mb) (.tuple #[]))):=fun H q=>Ad q.drew s t ht mb hid hbn htl
 have hbc:(D.tick.bind s mb).calls=D.calls:=by unfold St.bind;split<;>rfl
 have hcc:((D.tick.bind s mb).c s)=D.c s:=by unfold St.c;rw[hbc]
 have La:=U hcc;have QQ:Hid (∀ (A':au) H,Grow A.L w A'.L H->zS H b0 0 bh 0∧zV H b2 0 F∧H.cell? (J bh 4)=some vt):=fun A' H g=>⟨(X0.grow g).cell,(B2.grow g).cell,(fh.grow g).cell 4 rfl⟩
 have aN:D.run s (.seen hu F mb)=if bA (D.word (D.place mb))=4 then (D.tick,some (.start hu)) else if bA (D.word (D.place mb))=2 then (((D.tick.bind s mb).thn s hu F).1,some ((D.tick.bind s mb).thn s hu F).2) else ((D.tick.thn s hu F).1,some (D.tick.thn s hu F).2):=by
  simp only[St.run];split
  . rfl
  . split<;>rfl
 rw[aN];obtain⟨fv,cv,rfl,hent⟩:=hth.enter;have vR:Hid (∀ A' bE H,Grow A.L w A'.L H->kp A' bE s=kp A D s->jA (kp A' bE s) A'.L H (.func (.func fv) #[] cv) hu.E hu.thn):=fun A' bE H g e=>by rw[e];exact hth.grow g
 have Oz:=U HT;have SV:=U hmp;clear hR hid hpl hw aQ X0 B1 B2 fh hth hh0 aN hmp HT hbn htl hbc hcc ht QR;generalize D.word (D.place mb)=x at*;generalize hst:bA x=st at*;generalize hen:gD x=en at*;clear hst hen
 by_cases h4:st=4
 . rw[aV h4]
   obtain⟨Jv,Jw,Jy,Jz,JA⟩:=qX (x:=st) (c:=4) (ci:=4) (by omega);clear h4 Oz;go_enter Tryz.func223,Tryz.ntmps223;go_wp2_with fail
   go_region_held3 (fun G=>zS G b0 0 bh 0∧zT G b1 0 mb∧zS G bh 0 A.Y 0∧zS G A.Y 2 A.ba 0)
    (first|exact⟨c0,c1,h0,e2⟩|assumption|exact HK.out _ (Kp.of (by assumption) (by assumption) (by assumption)))
    (first|(go_at_call 48;refine HP.out.mono ?_;rintro e G ⟨rfl,rfl⟩)|(go_at_call 42;refine HL.out.mono ?_;rintro e H ⟨rfl,q1,q2⟩;have q4:=HG.out.trans q2;have q3:=bL.refl A s;clear q2)|(go_at_call 109;refine (HU.out _).mono ?_;rintro e G ⟨rfl,rfl⟩))
   have HQ:=U (zA (‹aD A D.tick _›) (‹Grow A.L w A.L _›));obtain⟨d0,d1,d2,d4,d5,d6⟩:=HB.out _ HQ.out.1 HQ.out.2;go_wp2_with fail;go_ret;exact⟨A,_,rfl,HQ.out.1,HQ.out.2,bL.refl _ _,_,rfl,Qq.out A D.tick _ HQ.out.2 rfl⟩
 . rw[aX h4]
   obtain⟨Jv,Jw,Jy,Jz,JA⟩:=o9 (x:=st) (c:=4) (ci:=4) (by omega)
   by_cases h2:st=2
   . rw[aV h2]
     rw[aV h2] at Oz;obtain⟨fd1,L6,L8,L9,Ma⟩:=qX (x:=st) (c:=2) (ci:=2) (by omega);clear h4 h2;go_enter Tryz.func223,Tryz.ntmps223;go_wp2_with fail
     go_region_held3 (fun G=>zS G b0 0 bh 0∧zT G b1 0 mb∧zS G bh 0 A.Y 0∧zS G A.Y 2 A.ba 0)
      (first|exact⟨c0,c1,h0,e2⟩|assumption|exact HK.out _ (Kp.of (by assumption) (by assumption) (by assumption)))
      (first|(go_at_call 48;refine HP.out.mono ?_;rintro e G ⟨rfl,rfl⟩)|(go_at_call 42;refine HL.out.mono ?_;rintro e H ⟨rfl,q1,q2⟩;have q4:=HG.out.trans q2;have q3:=bL.refl A s;clear q2)|(go_at_call 109;refine (HU.out _).mono ?_;rintro e G ⟨rfl,rfl⟩))
     have HQ:=U (zA (‹aD A D.tick _›) (‹Grow A.L w A.L _›));obtain⟨d0,d1,d2,d4,d5,d6⟩:=HB.out _ HQ.out.1 HQ.out.2;go_wp2_with fail;refine wp_region_still_tail 9 (by kernel_rfl) (by kernel_rfl) ?_;simp only[jk,jl,jm,jo]
     repeat still_step
     refine wpStill_nil ?_;change wpList _ _ _ _ _ H.drew;have JC:=U (HQ.out.2.trans (Grow.drew A.L H));have Mc:=U (QP.out H HQ.out.1);generalize H.drew=wd at*;go_wp2_with (go_at_call 224;refine Mc.out.mono ?_;rintro e w2 ⟨rfl,A2,p1,p2,p3,p4,p5⟩;have gg:=JC.out.trans p2;have ek:kp A2 (D.tick.bind s mb) s=kp A D s:=yc p3 p4 p5 (by rw[La.out]) (by rw[La.out]);obtain⟨d0,d2,d4⟩:=QQ.out A2 w2 gg;have Gu:=U (zA gg (zA p3 (zA p1 (zA ek (p3.mp.trans SV.out)))));clear p1 p2 p3 p4 p5 gg ek);refine wp_region_still_tail 5 (by kernel_rfl) (by kernel_rfl) ?_;simp only[jk,jl,jm,jo]
     repeat still_step
     refine wpStill_nil ?_;change wpList _ _ _ _ _ w2.drew;have OA:=U (Gu.out.1.trans (Grow.drew A2.L w2));have OB:=Oz.out A2 w2.drew Gu.out.2.2.1.drew Gu.out.2.2.2.2 _ fv cv Gu.out.2.2.1.drew (Grow.refl _ _) (vR.out A2 _ _ OA.out Gu.out.2.2.2.1);have HF:=U OB;clear OB;generalize w2.drew=wd2 at*;go_wp2_with fail;refine HF.out.mono ?_;rintro e w4 ⟨A',v,rfl,q1,q2,q3,q4⟩;go_wp2_with fail;go_ret;exact⟨A',v,rfl,q1,OA.out.trans q2,Gu.out.2.1.trans q3,q4⟩
   . rw[aX h2]
     rw[aX h2] at Oz;obtain⟨fd1,L6,L8,L9,Ma⟩:=o9 (x:=st) (c:=2) (ci:=2) (by omega);clear h4 h2;go_enter Tryz.func223,Tryz.ntmps223;go_wp2_with fail
     go_region_held3 (fun G=>zS G b0 0 bh 0∧zT G b1 0 mb∧zS G bh 0 A.Y 0∧zS G A.Y 2 A.ba 0)
      (first|exact⟨c0,c1,h0,e2⟩|assumption|exact HK.out _ (Kp.of (by assumption) (by assumption) (by assumption)))
      (first|(go_at_call 48;refine HP.out.mono ?_;rintro e G ⟨rfl,rfl⟩)|(go_at_call 42;refine HL.out.mono ?_;rintro e H ⟨rfl,q1,q2⟩;have q4:=HG.out.trans q2;have q3:=bL.refl A s;clear q2)|(go_at_call 109;refine (HU.out _).mono ?_;rintro e G ⟨rfl,rfl⟩))
     have HQ:=U (zA (‹aD A D.tick _›) (‹Grow A.L w A.L _›));obtain⟨d0,d1,d2,d4,d5,d6⟩:=HB.out _ HQ.out.1 HQ.out.2;go_wp2_with fail;refine wp_region_still_tail 5 (by kernel_rfl) (by kernel_rfl) ?_;simp only[jk,jl,jm,jo]
     repeat still_step
     refine wpStill_nil ?_;change wpList _ _ _ _ _ H.drew;have JC:=U (HQ.out.2.trans (Grow.drew A.L H));have OB:=Oz.out A H.drew HQ.out.1.drew SV.out _ fv cv HQ.out.1.drew (Grow.refl _ _) (vR.out A _ _ JC.out rfl);have HF:=U OB;clear OB;generalize H.drew=wd at*;go_wp2_with fail;refine HF.out.mono ?_;rintro e w4 ⟨A',v,rfl,q1,q2,q3,q4⟩;go_wp2_with fail;go_ret;exact⟨A',v,rfl,q1,JC.out.trans q2,q3,q4⟩
end Go.Proofs.YthicolbbmjfkfaaGreat.Em
