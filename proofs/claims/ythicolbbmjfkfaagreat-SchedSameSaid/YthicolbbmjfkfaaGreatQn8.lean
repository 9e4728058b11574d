import Derived.Test.YthicolbbmjfkfaaGreatQn5
import Derived.Test.YthicolbbmjfkfaaGreatQn6
set_option linter.unusedVariables false
set_option linter.unusedSimpArgs false
set_option maxRecDepth 100000
set_option maxHeartbeats 1600000
namespace Go.Proofs.YthicolbbmjfkfaaGreat.Em
open Go.ChangeShapes Go.WideShapes Go.ChangeAt Go.RowKit En
variable {A:au} {D:St} {w:World}
theorem Dr (hR:aC A D w) (s:Nat) (hmp:A.mp=0) (bh:Nat) (hu:dJ) (hh:dK (kp A D s) A.L w bh hu) (G mb:Nat) (HT:mb=0->wZ D s hu G):
 zk 211 #[R bh 0,zu G,I mb] w (bE A w s (D.seen s hu G mb)):=by
 obtain⟨r1,g1,f0,f1,f2⟩:=je hR #[R bh 0] 246 #[zu G] 25 #[I mb] 3;have c0:=f0.cell 0 (v:=R bh 0) rfl;have c1:=f1.cell 0 (v:=zu G) rfl;have c2:=f2.cell 0 (v:=I mb) rfl;have tF:=hh.grow g1
 by_cases h0:mb=0
 . have e0:D.seen s hu G mb=D.thn s hu G:=by unfold St.seen;rw[aV h0]
   rw[e0];obtain⟨vt,TT,fh,hth⟩:=tF;obtain⟨fv,cv,rfl,hent⟩:=hth.enter;obtain⟨fa1,fa2,fa3,fa4,fa5⟩:=uA (x:=mb) (c:=0) (ci:=0) (by omega);have h4:=fh.cell 4 (v:=.func (.func fv) #[] cv) rfl;have gd:=Grow.drew A.L (((w.alloc (.cells #[R bh 0] 246)).alloc (.cells #[zu G] 25)).alloc (.cells #[I mb] 3));have hf:=HT h0 A _ r1.drew hmp _ fv cv r1.drew (Grow.refl _ _) (hth.grow gd);have HF:=zH (zA hf (g1.trans gd));clear hR hh r1 g1 f0 f1 f2 fh hth hf HT h0 e0 gd hmp;go_enter Tryz.func211,Tryz.ntmps211;go_wp2_with fail;generalize (((w.alloc _).alloc _).alloc _)=w3 at*;refine wp_region_still_tail 5 (by kernel_rfl) (by kernel_rfl) ?_;simp only[jS,jT,jU,jV]
   repeat still_step
   refine wpStill_nil ?_;change wpList _ _ _ _ _ w3.drew;generalize w3.drew=wd at*;go_wp2_with fail;refine HF.out.1.mono ?_;rintro e w4 ⟨A',v,rfl,q1,q2,q3,q4⟩;go_wp2_with fail;go_ret;exact⟨A',v,rfl,q1,HF.out.2.trans q2,q3,q4⟩
 . have e0:D.seen s hu G mb=(D,.seen hu G mb):=by unfold St.seen;rw[aR h0]
   rw[e0];obtain⟨fa1,fa2,fa3,fa4,fa5⟩:=rf (x:=mb) (c:=0) (ci:=0) (by omega);have HQ:=zH (zA r1 (zA g1 (zA f0 (zA f1 (zA f2 tF)))));clear hR hh r1 g1 f0 f1 f2 tF HT h0 e0 hmp;go_enter Tryz.func211,Tryz.ntmps211;go_wp2_with fail;go_ret;obtain⟨r1,g1,f0,f1,f2,tF⟩:=HQ.out;exact⟨A,_,rfl,r1,g1,bT.refl _ _,_,_,_,rfl,⟨_,f0.box,tF⟩,f2.box,f1.box⟩
theorem Oq (hR:aC A D w) (s:Nat) (hmp:A.mp=0) (t:bL) (ht:D.aj.getD s none=some t) (hu:dJ) (G mb id b0 b1 b2 b3:Nat) (B0:gV (kp A D s) A.L w b0 hu) (B1:aN A.L w b1 (I id)) (B2:aN A.L w b2 (zu G)) (B3:aN A.L w b3 (I mb)) (hid:id<=65535) (hpl:D.place id<D.words.length) (hw:D.word (D.place id)<18446744073709551616) (hbn:t.aP.length<1000000) (htl:D.aT.length<1000000) (aL:D.count<4000000000000000000) (HT:mb=0->wZ D.tick s hu G):
 zk 225 #[R b0 0,R b1 0,R b2 0,R b3 0] w (kY A w s (D.run s (.gW hu G mb id))):=by
 obtain⟨bh,X0,hh0⟩:=B0;obtain⟨vt,TT,fh,hth⟩:=_root_.id hh0;have c0:=X0.cell;have c1:=B1.cell;have h0:w.cell? (J bh 0)=zs A.H 0:=fh.cell 0 rfl;have e2:=hR.z2;have HK:Hid (∀ E,Kp A w E->zS E b0 0 bh 0∧zT E b1 0 id∧zS E bh 0 A.H 0∧zS E A.H 2 A.ba 0):=by
  obtain⟨_,x0⟩:=X0;obtain⟨_,x1⟩:=B1;exact fun E k=>⟨k.fix _ _ _ x0.1 c0,k.fix _ _ _ x1.1 c1,k.fix _ _ _ fh.1 h0,k.ea⟩
 have HP:=zH (fu hR.drew id hid);have HL:=zH (iJ hR.drew (D.place id) hpl aL);have HU:=zH (fun E=>jl (D.word (D.place id)) hw E);have HG:=zG A.L w;have HB:Hid (∀ Y,aC A D.tick Y->Grow A.L w A.L Y->zS Y b0 0 bh 0∧zT Y b1 0 id∧zV Y b2 0 G∧zT Y b3 0 mb∧zS Y bh 0 A.H 0∧zS Y bh 1 (A.bt s) 0∧zV Y bh 3 hu.at_):=by
  intro Y q g;exact⟨(X0.grow g).cell,(B1.grow g).cell,(B2.grow g).cell,(B3.grow g).cell,(fh.grow g).cell 0 rfl,(fh.grow g).cell 1 rfl,(fh.grow g).cell 3 rfl⟩
 have Vr:Hid (∀ A' bB Y,Grow A.L w A'.L Y->kp A' bB s=kp A D s->dK (kp A' bB s) A'.L Y bh hu):=fun A' bB Y g e=>by rw[e];exact hh0.grow g
 have V6:Hid (∀ Y,aC A D.tick Y->zk 224 #[R A.H 0,R (A.bt s) 0,I id] Y.drew (Does A Y.drew s (D.tick.bind s id) (.tuple #[]))):=fun Y q=>De q.drew s t ht id hid hbn htl
 have hbc:(D.tick.bind s id).calls=D.calls:=by unfold St.bind;split<;>rfl
 have hcc:((D.tick.bind s id).c s)=D.c s:=by unfold St.c;rw[hbc]
 have Qb:=zH hcc;have qf:Hid (∀ (A':au) Y,Grow A.L w A'.L Y->zS Y b0 0 bh 0∧zV Y b2 0 G∧Y.cell? (J bh 4)=some vt):=fun A' Y g=>⟨(X0.grow g).cell,(B2.grow g).cell,(fh.grow g).cell 4 rfl⟩
 have aX:D.run s (.gW hu G mb id)=if gX (D.word (D.place id))=0∨hu.at_<gX (D.word (D.place id))∨bz (D.word (D.place id))=4 then ((D.tick.seen s hu G mb).1,some (D.tick.seen s hu G mb).2) else if bz (D.word (D.place id))=2 then (D.tick.bind s id,some (.older hu G)) else (D.tick,some (.older hu G)):=by
  simp only[St.run]
 rw[aX];have xg:Hid (∀ Y,aC A D.tick Y->Grow A.L w A.L Y->zk 211 #[R bh 0,zu G,I mb] Y (bE A Y s (D.tick.seen s hu G mb))):=fun Y q g=>Dr q s hmp bh hu (show dK (kp A D.tick s) A.L Y bh hu from hh0.grow g) G mb HT
 have Dc:Hid (∀ A' bB Y,aC A' bB Y->dK (kp A' bB s) A'.L Y bh hu->zk 201 #[R bh 0,zu G] Y (bE A' Y s (bB,.older hu G))):=fun A' bB Y q Z=>mX q s bh hu Z G
 clear hR hid hpl hw aL X0 B1 B2 B3 fh hth hh0 aX hmp HT hbn htl hbc hcc ht;generalize D.word (D.place id)=x at*;generalize hst:bz x=st at*;generalize hen:gX x=en at*;generalize hu.at_=ha at*;clear hst hen
 by_cases Jf:en=0
 . rw[aV (Or.inl Jf)]
   obtain⟨fa1,fa2,fa3,fa4,fa5⟩:=uA (x:=en) (c:=0) (ci:=0) (by omega);clear Jf;go_enter Tryz.func225,Tryz.ntmps225;go_wp2_with fail
   go_region_held3 (fun E=>zS E b0 0 bh 0∧zT E b1 0 id∧zS E bh 0 A.H 0∧zS E A.H 2 A.ba 0)
    (first|exact⟨c0,c1,h0,e2⟩|assumption|exact HK.out _ (Kp.of (by assumption) (by assumption) (by assumption)))
    (first|(go_at_call 48;refine HP.out.mono ?_;rintro e E ⟨rfl,rfl⟩)|(go_at_call 42;refine HL.out.mono ?_;rintro e Y ⟨rfl,q1,q2⟩;have q4:=HG.out.trans q2;have q3:=bT.refl A s;clear q2)|(go_at_call 109;refine (HU.out _).mono ?_;rintro e E ⟨rfl,rfl⟩))
   have HQ:=zH (zA (‹aC A D.tick _›) (‹Grow A.L w A.L _›));obtain⟨d0,d1,d2,d3,d4,d5,d6⟩:=HB.out _ HQ.out.1 HQ.out.2;go_wp2_with (go_at_call 211;refine (xg.out _ HQ.out.1 HQ.out.2).mono ?_;rintro e w2 ⟨A2,v,rfl,p1,p2,p3,p4⟩);go_ret;exact⟨A2,v,rfl,p1,HQ.out.2.trans p2,p3,p4⟩
 . have fa1:((en:Int)==0)=false:=by simp<;>omega
   have fa2:((en:Int)=0)=False:=by simp<;>omega
   have fa3:(en=0)=False:=by simp<;>omega
   have fa4:(en==0)=false:=by simp<;>omega
   have fa5:((en:Int) !=0)=true:=by simp<;>omega
   by_cases hlt:ha<en
   . rw[aV (Or.inr (Or.inl hlt))]
     obtain⟨K6,K7,K8,K9⟩:=Tj (x:=ha) (c:=en) (xi:=(ha:Int)) (ci:=(en:Int)) (by omega);clear Jf hlt;go_enter Tryz.func225,Tryz.ntmps225;go_wp2_with fail
     go_region_held3 (fun E=>zS E b0 0 bh 0∧zT E b1 0 id∧zS E bh 0 A.H 0∧zS E A.H 2 A.ba 0)
      (first|exact⟨c0,c1,h0,e2⟩|assumption|exact HK.out _ (Kp.of (by assumption) (by assumption) (by assumption)))
      (first|(go_at_call 48;refine HP.out.mono ?_;rintro e E ⟨rfl,rfl⟩)|(go_at_call 42;refine HL.out.mono ?_;rintro e Y ⟨rfl,q1,q2⟩;have q4:=HG.out.trans q2;have q3:=bT.refl A s;clear q2)|(go_at_call 109;refine (HU.out _).mono ?_;rintro e E ⟨rfl,rfl⟩))
     have HQ:=zH (zA (‹aC A D.tick _›) (‹Grow A.L w A.L _›));obtain⟨d0,d1,d2,d3,d4,d5,d6⟩:=HB.out _ HQ.out.1 HQ.out.2;go_wp2_with (go_at_call 211;refine (xg.out _ HQ.out.1 HQ.out.2).mono ?_;rintro e w2 ⟨A2,v,rfl,p1,p2,p3,p4⟩);go_ret;exact⟨A2,v,rfl,p1,HQ.out.2.trans p2,p3,p4⟩
   . have K6:decide ((ha:Int)<(en:Int))=false:=by simp<;>omega
     have K7:((ha:Int)<(en:Int))=False:=by simp<;>omega
     have K8:(ha<en)=False:=by simp<;>omega
     have K9:decide (ha<en)=false:=by simp<;>omega
     by_cases h4:st=4
     . rw[aV (Or.inr (Or.inr h4))]
       obtain⟨Ob,Oc,Od,Oe,Og⟩:=uA (x:=st) (c:=4) (ci:=4) (by omega);clear Jf hlt h4;go_enter Tryz.func225,Tryz.ntmps225;go_wp2_with fail
       go_region_held3 (fun E=>zS E b0 0 bh 0∧zT E b1 0 id∧zS E bh 0 A.H 0∧zS E A.H 2 A.ba 0)
        (first|exact⟨c0,c1,h0,e2⟩|assumption|exact HK.out _ (Kp.of (by assumption) (by assumption) (by assumption)))
        (first|(go_at_call 48;refine HP.out.mono ?_;rintro e E ⟨rfl,rfl⟩)|(go_at_call 42;refine HL.out.mono ?_;rintro e Y ⟨rfl,q1,q2⟩;have q4:=HG.out.trans q2;have q3:=bT.refl A s;clear q2)|(go_at_call 109;refine (HU.out _).mono ?_;rintro e E ⟨rfl,rfl⟩))
       have HQ:=zH (zA (‹aC A D.tick _›) (‹Grow A.L w A.L _›));obtain⟨d0,d1,d2,d3,d4,d5,d6⟩:=HB.out _ HQ.out.1 HQ.out.2;go_wp2_with (go_at_call 211;refine (xg.out _ HQ.out.1 HQ.out.2).mono ?_;rintro e w2 ⟨A2,v,rfl,p1,p2,p3,p4⟩);go_ret;exact⟨A2,v,rfl,p1,HQ.out.2.trans p2,p3,p4⟩
     . rw[aR (by omega)]
       obtain⟨Ob,Oc,Od,Oe,Og⟩:=rf (x:=st) (c:=4) (ci:=4) (by omega)
       by_cases h2:st=2
       . rw[aV h2]
         obtain⟨fd1,QN,QO,QP,QQ⟩:=uA (x:=st) (c:=2) (ci:=2) (by omega);clear Jf hlt h4 h2;go_enter Tryz.func225,Tryz.ntmps225;go_wp2_with fail
         go_region_held3 (fun E=>zS E b0 0 bh 0∧zT E b1 0 id∧zS E bh 0 A.H 0∧zS E A.H 2 A.ba 0)
          (first|exact⟨c0,c1,h0,e2⟩|assumption|exact HK.out _ (Kp.of (by assumption) (by assumption) (by assumption)))
          (first|(go_at_call 48;refine HP.out.mono ?_;rintro e E ⟨rfl,rfl⟩)|(go_at_call 42;refine HL.out.mono ?_;rintro e Y ⟨rfl,q1,q2⟩;have q4:=HG.out.trans q2;have q3:=bT.refl A s;clear q2)|(go_at_call 109;refine (HU.out _).mono ?_;rintro e E ⟨rfl,rfl⟩))
         have HQ:=zH (zA (‹aC A D.tick _›) (‹Grow A.L w A.L _›));obtain⟨d0,d1,d2,d3,d4,d5,d6⟩:=HB.out _ HQ.out.1 HQ.out.2;go_wp2_with fail;refine wp_region_still_tail 9 (by kernel_rfl) (by kernel_rfl) ?_;simp only[jS,jT,jU,jV]
         repeat still_step
         refine wpStill_nil ?_;change wpList _ _ _ _ _ Y.drew;have Ot:=zH (HQ.out.2.trans (Grow.drew A.L Y));have QZ:=zH (V6.out Y HQ.out.1);generalize Y.drew=wd at*;go_wp2_with (first|(go_at_call 224;refine QZ.out.mono ?_;rintro e w2 ⟨rfl,A2,p1,p2,p3,p4,p5⟩;have gg:=Ot.out.trans p2;have ek:kp A2 (D.tick.bind s id) s=kp A D s:=Bd p3 p4 p5 (by rw[Qb.out]) (by rw[Qb.out]);have YX:=zH (Dc.out A2 _ w2 p1 (Vr.out A2 _ w2 gg ek));obtain⟨d0,d2,d4⟩:=qf.out A2 w2 gg;have FD:=zH (zA gg p3);clear p1 p2 p3 p4 p5 gg ek)|(go_at_call 201;refine YX.out.mono ?_;rintro e w3 ⟨A3,v,rfl,p1,p2,p3,p4⟩));go_ret;exact⟨A3,v,rfl,p1,FD.out.1.trans p2,FD.out.2.trans p3,p4⟩
       . rw[aR h2]
         obtain⟨fd1,QN,QO,QP,QQ⟩:=rf (x:=st) (c:=2) (ci:=2) (by omega);clear Jf hlt h4 h2;go_enter Tryz.func225,Tryz.ntmps225;go_wp2_with fail
         go_region_held3 (fun E=>zS E b0 0 bh 0∧zT E b1 0 id∧zS E bh 0 A.H 0∧zS E A.H 2 A.ba 0)
          (first|exact⟨c0,c1,h0,e2⟩|assumption|exact HK.out _ (Kp.of (by assumption) (by assumption) (by assumption)))
          (first|(go_at_call 48;refine HP.out.mono ?_;rintro e E ⟨rfl,rfl⟩)|(go_at_call 42;refine HL.out.mono ?_;rintro e Y ⟨rfl,q1,q2⟩;have q4:=HG.out.trans q2;have q3:=bT.refl A s;clear q2)|(go_at_call 109;refine (HU.out _).mono ?_;rintro e E ⟨rfl,rfl⟩))
         have HQ:=zH (zA (‹aC A D.tick _›) (‹Grow A.L w A.L _›));obtain⟨d0,d1,d2,d3,d4,d5,d6⟩:=HB.out _ HQ.out.1 HQ.out.2;go_wp2_with (go_at_call 201;refine (Dc.out A D.tick _ HQ.out.1 (Vr.out A D.tick _ HQ.out.2 rfl)).mono ?_;rintro e w2 ⟨A2,v,rfl,p1,p2,p3,p4⟩);go_ret;exact⟨A2,v,rfl,p1,HQ.out.2.trans p2,p3,p4⟩
theorem Q0 (hR:aC A D w) (s:Nat) (hmp:A.mp=0) (t:bL) (ht:D.aj.getD s none=some t) (hu:dJ) (G mb b0 b1 b2:Nat) (B0:gV (kp A D s) A.L w b0 hu) (B1:aN A.L w b1 (I mb)) (B2:aN A.L w b2 (zu G)) (hid:mb<=65535) (hpl:D.place mb<D.words.length) (hw:D.word (D.place mb)<18446744073709551616) (hbn:t.aP.length<1000000) (htl:D.aT.length<1000000) (aL:D.count<4000000000000000000) (HT:wZ (if bz (D.word (D.place mb))=2 then D.tick.bind s mb else D.tick) s hu G) (V7:∀ A',aC A' (D.tick.bind s mb) w->True):
 zk 223 #[R b0 0,R b1 0,R b2 0] w (kY A w s (D.run s (.seen hu G mb))):=by
 obtain⟨bh,X0,hh0⟩:=B0;obtain⟨vt,TT,fh,hth⟩:=_root_.id hh0;have c0:=X0.cell;have c1:=B1.cell;have h0:w.cell? (J bh 0)=zs A.H 0:=fh.cell 0 rfl;have e2:=hR.z2;have HK:Hid (∀ E,Kp A w E->zS E b0 0 bh 0∧zT E b1 0 mb∧zS E bh 0 A.H 0∧zS E A.H 2 A.ba 0):=by
  obtain⟨_,x0⟩:=X0;obtain⟨_,x1⟩:=B1;exact fun E k=>⟨k.fix _ _ _ x0.1 c0,k.fix _ _ _ x1.1 c1,k.fix _ _ _ fh.1 h0,k.ea⟩
 have HP:=zH (fu hR.drew mb hid);have HL:=zH (iJ hR.drew (D.place mb) hpl aL);have HU:=zH (fun E=>jl (D.word (D.place mb)) hw E);have HG:=zG A.L w;have HB:Hid (∀ Y,aC A D.tick Y->Grow A.L w A.L Y->zS Y b0 0 bh 0∧zT Y b1 0 mb∧zV Y b2 0 G∧zS Y bh 0 A.H 0∧zS Y bh 1 (A.bt s) 0∧Y.cell? (J bh 4)=some (vt)):=by
  intro Y q g;exact⟨(X0.grow g).cell,(B1.grow g).cell,(B2.grow g).cell,(fh.grow g).cell 0 rfl,(fh.grow g).cell 1 rfl,(fh.grow g).cell 4 rfl⟩
 have Vr:Hid (∀ A' bB Y,Grow A.L w A'.L Y->kp A' bB s=kp A D s->dK (kp A' bB s) A'.L Y bh hu):=fun A' bB Y g e=>by rw[e];exact hh0.grow g
 have V6:Hid (∀ Y,aC A D.tick Y->zk 224 #[R A.H 0,R (A.bt s) 0,I mb] Y.drew (Does A Y.drew s (D.tick.bind s mb) (.tuple #[]))):=fun Y q=>De q.drew s t ht mb hid hbn htl
 have hbc:(D.tick.bind s mb).calls=D.calls:=by unfold St.bind;split<;>rfl
 have hcc:((D.tick.bind s mb).c s)=D.c s:=by unfold St.c;rw[hbc]
 have Qb:=zH hcc;have qf:Hid (∀ (A':au) Y,Grow A.L w A'.L Y->zS Y b0 0 bh 0∧zV Y b2 0 G∧Y.cell? (J bh 4)=some vt):=fun A' Y g=>⟨(X0.grow g).cell,(B2.grow g).cell,(fh.grow g).cell 4 rfl⟩
 have aX:D.run s (.seen hu G mb)=if bz (D.word (D.place mb))=4 then (D.tick,some (.start hu)) else if bz (D.word (D.place mb))=2 then (((D.tick.bind s mb).thn s hu G).1,some ((D.tick.bind s mb).thn s hu G).2) else ((D.tick.thn s hu G).1,some (D.tick.thn s hu G).2):=by
  simp only[St.run];split
  . rfl
  . split<;>rfl
 rw[aX];obtain⟨fv,cv,rfl,hent⟩:=hth.enter;have tJ:Hid (∀ A' bB Y,Grow A.L w A'.L Y->kp A' bB s=kp A D s->kI (kp A' bB s) A'.L Y (.func (.func fv) #[] cv) hu.F hu.thn):=fun A' bB Y g e=>by rw[e];exact hth.grow g
 have TH:=zH HT;have Yb:=zH hmp;clear hR hid hpl hw aL X0 B1 B2 fh hth hh0 aX hmp HT hbn htl hbc hcc ht V7;generalize D.word (D.place mb)=x at*;generalize hst:bz x=st at*;generalize hen:gX x=en at*;clear hst hen
 by_cases h4:st=4
 . rw[aV h4]
   obtain⟨Ob,Oc,Od,Oe,Og⟩:=uA (x:=st) (c:=4) (ci:=4) (by omega);clear h4 TH;go_enter Tryz.func223,Tryz.ntmps223;go_wp2_with fail
   go_region_held3 (fun E=>zS E b0 0 bh 0∧zT E b1 0 mb∧zS E bh 0 A.H 0∧zS E A.H 2 A.ba 0)
    (first|exact⟨c0,c1,h0,e2⟩|assumption|exact HK.out _ (Kp.of (by assumption) (by assumption) (by assumption)))
    (first|(go_at_call 48;refine HP.out.mono ?_;rintro e E ⟨rfl,rfl⟩)|(go_at_call 42;refine HL.out.mono ?_;rintro e Y ⟨rfl,q1,q2⟩;have q4:=HG.out.trans q2;have q3:=bT.refl A s;clear q2)|(go_at_call 109;refine (HU.out _).mono ?_;rintro e E ⟨rfl,rfl⟩))
   have HQ:=zH (zA (‹aC A D.tick _›) (‹Grow A.L w A.L _›));obtain⟨d0,d1,d2,d4,d5,d6⟩:=HB.out _ HQ.out.1 HQ.out.2;go_wp2_with fail;go_ret;exact⟨A,_,rfl,HQ.out.1,HQ.out.2,bT.refl _ _,_,rfl,Vr.out A D.tick _ HQ.out.2 rfl⟩
 . rw[aR h4]
   obtain⟨Ob,Oc,Od,Oe,Og⟩:=rf (x:=st) (c:=4) (ci:=4) (by omega)
   by_cases h2:st=2
   . rw[aV h2]
     rw[aV h2] at TH;obtain⟨fd1,QN,QO,QP,QQ⟩:=uA (x:=st) (c:=2) (ci:=2) (by omega);clear h4 h2;go_enter Tryz.func223,Tryz.ntmps223;go_wp2_with fail
     go_region_held3 (fun E=>zS E b0 0 bh 0∧zT E b1 0 mb∧zS E bh 0 A.H 0∧zS E A.H 2 A.ba 0)
      (first|exact⟨c0,c1,h0,e2⟩|assumption|exact HK.out _ (Kp.of (by assumption) (by assumption) (by assumption)))
      (first|(go_at_call 48;refine HP.out.mono ?_;rintro e E ⟨rfl,rfl⟩)|(go_at_call 42;refine HL.out.mono ?_;rintro e Y ⟨rfl,q1,q2⟩;have q4:=HG.out.trans q2;have q3:=bT.refl A s;clear q2)|(go_at_call 109;refine (HU.out _).mono ?_;rintro e E ⟨rfl,rfl⟩))
     have HQ:=zH (zA (‹aC A D.tick _›) (‹Grow A.L w A.L _›));obtain⟨d0,d1,d2,d4,d5,d6⟩:=HB.out _ HQ.out.1 HQ.out.2;go_wp2_with fail;refine wp_region_still_tail 9 (by kernel_rfl) (by kernel_rfl) ?_;simp only[jS,jT,jU,jV]
     repeat still_step
     refine wpStill_nil ?_;change wpList _ _ _ _ _ Y.drew;have Ot:=zH (HQ.out.2.trans (Grow.drew A.L Y));have QZ:=zH (V6.out Y HQ.out.1);generalize Y.drew=wd at*;go_wp2_with (go_at_call 224;refine QZ.out.mono ?_;rintro e w2 ⟨rfl,A2,p1,p2,p3,p4,p5⟩;have gg:=Ot.out.trans p2;have ek:kp A2 (D.tick.bind s mb) s=kp A D s:=Bd p3 p4 p5 (by rw[Qb.out]) (by rw[Qb.out]);obtain⟨d0,d2,d4⟩:=qf.out A2 w2 gg;have FD:=zH (zA gg (zA p3 (zA p1 (zA ek (p3.mp.trans Yb.out)))));clear p1 p2 p3 p4 p5 gg ek);refine wp_region_still_tail 5 (by kernel_rfl) (by kernel_rfl) ?_;simp only[jS,jT,jU,jV]
     repeat still_step
     refine wpStill_nil ?_;change wpList _ _ _ _ _ w2.drew;have TJ:=zH (FD.out.1.trans (Grow.drew A2.L w2));have Q3:=TH.out A2 w2.drew FD.out.2.2.1.drew FD.out.2.2.2.2 _ fv cv FD.out.2.2.1.drew (Grow.refl _ _) (tJ.out A2 _ _ TJ.out FD.out.2.2.2.1);have HF:=zH Q3;clear Q3;generalize w2.drew=wd2 at*;go_wp2_with fail;refine HF.out.mono ?_;rintro e w4 ⟨A',v,rfl,q1,q2,q3,q4⟩;go_wp2_with fail;go_ret;exact⟨A',v,rfl,q1,TJ.out.trans q2,FD.out.2.1.trans q3,q4⟩
   . rw[aR h2]
     rw[aR h2] at TH;obtain⟨fd1,QN,QO,QP,QQ⟩:=rf (x:=st) (c:=2) (ci:=2) (by omega);clear h4 h2;go_enter Tryz.func223,Tryz.ntmps223;go_wp2_with fail
     go_region_held3 (fun E=>zS E b0 0 bh 0∧zT E b1 0 mb∧zS E bh 0 A.H 0∧zS E A.H 2 A.ba 0)
      (first|exact⟨c0,c1,h0,e2⟩|assumption|exact HK.out _ (Kp.of (by assumption) (by assumption) (by assumption)))
      (first|(go_at_call 48;refine HP.out.mono ?_;rintro e E ⟨rfl,rfl⟩)|(go_at_call 42;refine HL.out.mono ?_;rintro e Y ⟨rfl,q1,q2⟩;have q4:=HG.out.trans q2;have q3:=bT.refl A s;clear q2)|(go_at_call 109;refine (HU.out _).mono ?_;rintro e E ⟨rfl,rfl⟩))
     have HQ:=zH (zA (‹aC A D.tick _›) (‹Grow A.L w A.L _›));obtain⟨d0,d1,d2,d4,d5,d6⟩:=HB.out _ HQ.out.1 HQ.out.2;go_wp2_with fail;refine wp_region_still_tail 5 (by kernel_rfl) (by kernel_rfl) ?_;simp only[jS,jT,jU,jV]
     repeat still_step
     refine wpStill_nil ?_;change wpList _ _ _ _ _ Y.drew;have Ot:=zH (HQ.out.2.trans (Grow.drew A.L Y));have Q3:=TH.out A Y.drew HQ.out.1.drew Yb.out _ fv cv HQ.out.1.drew (Grow.refl _ _) (tJ.out A _ _ Ot.out rfl);have HF:=zH Q3;clear Q3;generalize Y.drew=wd at*;go_wp2_with fail;refine HF.out.mono ?_;rintro e w4 ⟨A',v,rfl,q1,q2,q3,q4⟩;go_wp2_with fail;go_ret;exact⟨A',v,rfl,q1,Ot.out.trans q2,q3,q4⟩
theorem Fix.set2 {L:dE} {w:World} {b:Nat} {x y:Value} {T:TypeId} (h:Fix L w b (.cells #[x,y] T)) (u v:Value):Fix L ((w.setCell (J b 0) u).setCell (J b 1) v) b (.cells #[u,v] T):=by
 refine⟨h.1,?_⟩;have h2:=h.2;simp[World.setCell,Array.getElem?_modify,h2]
theorem aC.stamp {A:au} {D aH:St} {w w2:World} (hR:aC A D w) (r2:aC A aH w2) (g:Grow A.L w A.L w2) (ht:aH.aT=D.aT) {b:Nat} {x y:Value} {T:TypeId} (hb:w.heap.size<=b) (fx:Fix A.L w2 b (.cells #[x,y] T)) (u v:Value):
 aC A aH ((w2.setCell (J b 0) u).setCell (J b 1) v)∧Grow A.L w A.L ((w2.setCell (J b 0) u).setCell (J b 1) v)∧Fix A.L ((w2.setCell (J b 0) u).setCell (J b 1) v) b (.cells #[u,v] T):=by
 obtain⟨r3,g3⟩:=hR.ou r2 g ht rfl (a:=(J b 0)) hb fx.1 u;obtain⟨r4,g4⟩:=hR.ou r3 g3 ht rfl (a:=(J b 1)) hb fx.1 v;exact⟨r4,g4,fx.set2 u v⟩
theorem Ou (hR:aC A D w) (s:Nat) (hmp:A.mp=0) (t:bL) (ht:D.aj.getD s none=some t) (hu:dJ) (G mb b0 b1 b2:Nat) (B0:gV (kp A D s) A.L w b0 hu) (B1:aN A.L w b1 (zu G)) (B2:aN A.L w b2 (I mb)) (hv:VL D G) (hx:D.word (af G 1)<18446744073709551616) (aL:D.count<4000000000000000000) (HT:mb=0->wZ D.tick s hu G):
 zk 210 #[R b0 0,R b1 0,R b2 0] w (kY A w s (D.run s (.ended hu G mb))):=by
 have hsl:=hR.sl;obtain⟨bh,X0,hh0⟩:=B0;obtain⟨vt,TT,fh,hth⟩:=id hh0;have c0:=X0.cell;have c1:=B1.cell;have h0:w.cell? (J bh 0)=zs A.H 0:=fh.cell 0 rfl;have e2:=hR.z2;have TK:=zH (eQ G 1 1 rfl hv.lo (by have:=hv.hi;omega) hv.u (by omega));have HL:Hid (∀ E,aC A D E->zk 42 #[R A.ba 0,I ((af G 1:Nat):Int)] E (vC A E D.tick (zu (D.word (af G 1):Int)))):=fun E r=>iJ r (af G 1) (dO hR hv.lo hv.hi (by omega)) aL
 have HKK:Hid (∀ E,aC A D.tick E->Grow A.L w A.L E->zS E b0 0 bh 0∧zV E b1 0 G∧zS E bh 0 A.H 0∧zS E A.H 2 A.ba 0):=fun E r g=>⟨(X0.grow g).cell,(B1.grow g).cell,(fh.grow g).cell 0 rfl,r.df 2 rfl⟩
 have hrd:=rQ (D.word (af G 1)) hx;have FE:=zH hrd;have nT:Hid (aC A D w.drew):=hR.drew;have HG:=zG A.L w;have FC:Hid (Fix A.L (w.drew.alloc (.cells #[I 0,zu 0] 217)) w.heap.size (.cells #[I 0,zu 0] 217)):=eP hR.drew.mem.fresh _ rfl;have x0:=World.new_ne w _ c0;have x1:=World.new_ne w _ c1;have x2:=World.new_ne w _ h0;have x3:=World.new_ne w _ e2;generalize hkd:(rd (D.word (af G 1))).1=kd at*;generalize hn:(rd (D.word (af G 1))).2=n at*;have HST:Hid (∀ w2 b,aC A D.tick w2->Grow A.L w A.L w2->w.heap.size<=b->Fix A.L w2 b (.cells #[I 0,zu 0] 217)->aC A D.tick ((w2.setCell (J b 0) (I kd)).setCell (J b 1) (zu n))∧Grow A.L w A.L ((w2.setCell (J b 0) (I kd)).setCell (J b 1) (zu n))∧Fix A.L ((w2.setCell (J b 0) (I kd)).setCell (J b 1) (zu n)) b (.cells #[I kd,zu n] 217)):=fun w2 b r g hb fx=>hR.stamp r g rfl hb fx _ _
 have V8:Hid (∀ Y,Grow A.L w A.L Y->w.heap.size<=Y.heap.size):=fun Y g=>g.size
 have HB:Hid (∀ Y,aC A D.tick Y->Grow A.L w A.L Y->zS Y b0 0 bh 0∧zV Y b1 0 G∧zT Y b2 0 mb∧zS Y bh 0 A.H 0∧zS Y bh 1 (A.bt s) 0∧zV Y bh 3 hu.at_∧zT Y (A.bt s) 0 t.id):=
  fun Y q g=>⟨(X0.grow g).cell,(B1.grow g).cell,(B2.grow g).cell,(fh.grow g).cell 0 rfl,(fh.grow g).cell 1 rfl,(fh.grow g).cell 3 rfl,q.fw (s:=s) (t:=t) ht 0 rfl⟩
 have xg:Hid (∀ Y,aC A D.tick Y->Grow A.L w A.L Y->zk 211 #[R bh 0,zu G,I mb] Y (bE A Y s (D.tick.seen s hu G mb))):=fun Y q g=>Dr q s hmp bh hu (show dK (kp A D.tick s) A.L Y bh hu from hh0.grow g) G mb HT
 have Dc:Hid (∀ Y,aC A D.tick Y->Grow A.L w A.L Y->zk 201 #[R bh 0,zu G] Y (bE A Y s (D.tick,.older hu G))):=fun Y q g=>mX q s bh hu (show dK (kp A D.tick s) A.L Y bh hu from hh0.grow g) G
 have Q4:Hid (∀ Y,aC A D.tick Y->Grow A.L w A.L Y->zk 212 #[R bh 0,zu G,I mb,I n] Y (bE A Y s (D.tick,.gW hu G mb n))):=fun Y q g=>I7 q s bh hu (show dK (kp A D.tick s) A.L Y bh hu from hh0.grow g) G mb n
 have hn2:kd=2->n<=65535:=by
  intro h;have:=(wS (D.word (af G 1)) hx).2.1;rw[hkd,hn] at this;have:=this h;omega
 have aX:D.run s (.ended hu G mb)=if kd=1∧n<=hu.at_ then (D.tick,some (.older hu G)) else if kd≠2∨n=t.id then ((D.tick.seen s hu G mb).1,some (D.tick.seen s hu G mb).2) else (D.tick,some (.gW hu G mb n)):=by
  have e:D.tick.t s=t:=cK ht;simp only[St.run,hkd,hn,e]
 have uI:=zH aX;have TM:=zH hn2;generalize D.run s (.ended hu G mb)=rr at*;clear hn2 hR aL hv X0 B1 B2 fh hth hh0 HT hx hrd hkd hn aX ht hmp hsl;generalize hu.at_=ha at*;generalize t.id=tid at*;generalize D.word (af G 1)=x at*;go_enter Tryz.func210,Tryz.ntmps210;go_wp2_with fail
 go_region_held3 (fun E=>zS E b0 0 bh 0∧zV E b1 0 G∧zS E bh 0 A.H 0∧zS E A.H 2 A.ba 0)
  (first|exact⟨c0,c1,h0,e2⟩|assumption|exact HKK.out _ q1 q4|exact HKK.out _ (q1.alloc _) (q4.trans (Grow.alloc _ _ _))|exact HKK.out _ r2 g2|exact HKK.out _ (r2.alloc _) (g2.trans (Grow.alloc _ _ _))|exact HKK.out _ (HST.out _ _ r2 g2 hb FX.out).1 (HST.out _ _ r2 g2 hb FX.out).2.1|go_keep)
  (first|(go_at_call 85;refine (TK.out _).mono ?_;rintro e E ⟨rfl,rfl⟩)|(go_at_call 42;refine (HL.out _ nT.out).mono ?_;rintro e Y ⟨rfl,q1,q2⟩;have q4:=HG.out.trans q2)|(go_at_call 42;refine (HL.out _ (nT.out.alloc _)).mono ?_;rintro e Y ⟨rfl,q1,q2⟩;have q4:=(HG.out.trans (Grow.alloc _ _ _)).trans q2;have V9:=zH (FC.out.grow q2))|(go_at_call 108;refine (FE.out _).mono ?_;rintro e w2 ⟨rfl,hq⟩;have r2:=q1.below hq;have g2:=q4.trans (Grow.below hq);have FX:=zH (V9.out.grow (Grow.below hq));have hb:=zr w.heap.size;have Q5:=FX.out.cell 0 (v:=I 0) rfl;have Q6:=FX.out.cell 1 (v:=zu 0) rfl;have TN:=FX.out.frozen 0;have TP:=FX.out.frozen 1)|(go_at_call 108;refine (FE.out _).mono ?_;rintro e w2 ⟨rfl,hq⟩;have r2:=(q1.alloc _).below hq;have g2:=(q4.trans (Grow.alloc A.L _ _)).trans (Grow.below hq);have FX:=zH ((eP q1.mem.fresh (.cells #[I 0,zu 0] 217) rfl).grow (Grow.below (L:=A.L) hq));have hb:=V8.out _ q4;have Q5:=FX.out.cell 0 (v:=I 0) rfl;have Q6:=FX.out.cell 1 (v:=zu 0) rfl;have TN:=FX.out.frozen 0;have TP:=FX.out.frozen 1)|(go_at_call 108;refine (FE.out _).mono ?_;rintro e w2 ⟨rfl,hq⟩;have r2:=q1.below hq;have g2:=q4.trans (Grow.below hq)))
 all_goals
  rename_i bD;clear bD x0 x1 x2 x3 c0 c1 h0 e2
  first
  | (have HZ := zH (HST.out _ _ r2 g2 hb FX.out)
     clear FX hb Q5 Q6 TN TP r2 g2 q1 q4
     generalize hW:(World.setCell _ _ _).setCell _ _=W at *)
  | (have HZ := zH (zA (r2.alloc (.cells #[I (kd : Int), zu (n : Int)] 217)) (zA (g2.trans (Grow.alloc _ _ (.cells #[I (kd : Int), zu (n : Int)] 217))) (eP r2.mem.fresh (.cells #[I (kd : Int), zu (n : Int)] 217) rfl)))
     clear r2 g2 q1 q4
     generalize hW:w2.alloc _=W at *)
  obtain⟨r3,g3,f3⟩:=HZ.out;have s0:=f3.cell 0 (v:=I kd) rfl;have s1:=f3.cell 1 (v:=zu n) rfl;obtain⟨d0,d1,d2,h0,h1,h3,t0⟩:=HB.out W r3 g3;clear f3 r3 g3 hW hq q2;have hn2:=TM.out;clear TM
  by_cases k1:kd=1
  . have fa1:((kd:Int)==1)=true:=by simp<;>omega
    have fa2:((kd:Int)=1)=True:=by simp<;>omega
    have fa3:(kd=1)=True:=by simp<;>omega
    have fa4:(kd==1)=true:=by simp<;>omega
    have fa5:((kd:Int) !=1)=false:=by simp<;>omega
    obtain⟨Ov,Ox,Oy,Oz,OA⟩:=rf (x:=kd) (c:=2) (ci:=2) (by omega)
    by_cases hna:n<=ha
    . have HE:=zH (uI.out.trans (aV ⟨k1,hna⟩))
      obtain⟨K6,K7,K8,K9⟩:=XP (x:=n) (c:=ha) (xi:=(n:Int)) (ci:=(ha:Int)) (by omega);subst k1;clear hna;go_wp2_with fail
      go_quiet (fail)
      go_wp2_with (go_at_call 201;refine (Dc.out _ (HZ.out.1.drewN _) (HZ.out.2.1.trans (Grow.drewN _ _ _))).mono ?_;rintro e w4 ⟨A2,v,rfl,p1,p2,p3,p4⟩);go_ret;rw[HE.out];exact⟨A2,v,rfl,p1,(HZ.out.2.1.trans (Grow.drewN _ _ _)).trans p2,p3,p4⟩
    . have HE:=zH ((uI.out.trans (aR (fun h=>hna h.2))).trans (aV (Or.inl (by omega))))
      obtain⟨K6,K7,K8,K9⟩:=XQ (x:=n) (c:=ha) (xi:=(n:Int)) (ci:=(ha:Int)) (by omega);subst k1;clear hna;go_wp2_with fail
      go_quiet (fail)
      go_wp2_with fail
      go_quiet (fail)
      go_wp2_with (go_at_call 211;refine (xg.out _ (HZ.out.1.drewN _) (HZ.out.2.1.trans (Grow.drewN _ _ _))).mono ?_;rintro e w4 ⟨A2,v,rfl,p1,p2,p3,p4⟩);go_ret;rw[HE.out];exact⟨A2,v,rfl,p1,(HZ.out.2.1.trans (Grow.drewN _ _ _)).trans p2,p3,p4⟩
  . have OB:=zH (uI.out.trans (aR (fun h=>k1 h.1)))
    obtain⟨fa1,fa2,fa3,fa4,fa5⟩:=rf (x:=kd) (c:=1) (ci:=1) (by omega)
    by_cases k2:kd=2
    . have Ov:((kd:Int)==2)=true:=by simp<;>omega
      have Ox:((kd:Int)=2)=True:=by simp<;>omega
      have Oy:(kd=2)=True:=by simp<;>omega
      have Oz:(kd==2)=true:=by simp<;>omega
      have OA:((kd:Int) !=2)=false:=by simp<;>omega
      have QI:=hn2 k2;have ew:IntKind.i64.wrap (n:Int)=(n:Int):=by rw[jG];omega
      by_cases hni:n=tid
      . have HE:=zH (OB.out.trans (aV (Or.inr hni)))
        obtain⟨K6,K7,K8,K9,We⟩:=uA (x:=n) (c:=tid) (ci:=(tid:Int)) (by omega);subst k2;clear k1 hni QI;go_wp2_with fail
        go_quiet (fail)
        go_wp2_with fail
        go_quiet (fail)
        go_wp2_with (go_at_call 211;refine (xg.out _ (HZ.out.1.drewN _) (HZ.out.2.1.trans (Grow.drewN _ _ _))).mono ?_;rintro e w4 ⟨A2,v,rfl,p1,p2,p3,p4⟩);go_ret;rw[HE.out];exact⟨A2,v,rfl,p1,(HZ.out.2.1.trans (Grow.drewN _ _ _)).trans p2,p3,p4⟩
      . have HE:=zH (OB.out.trans (aR (by omega)))
        obtain⟨K6,K7,K8,K9,We⟩:=rf (x:=n) (c:=tid) (ci:=(tid:Int)) (by omega);subst k2;clear k1 hni QI;go_wp2_with fail
        go_quiet (fail)
        go_wp2_with fail
        go_quiet (fail)
        go_wp2_with (go_at_call 212;refine (Q4.out _ (HZ.out.1.drewN _) (HZ.out.2.1.trans (Grow.drewN _ _ _))).mono ?_;rintro e w4 ⟨A2,v,rfl,p1,p2,p3,p4⟩);go_ret;rw[HE.out];exact⟨A2,v,rfl,p1,(HZ.out.2.1.trans (Grow.drewN _ _ _)).trans p2,p3,p4⟩
    . have HE:=zH (OB.out.trans (aV (Or.inl k2)))
      obtain⟨Ov,Ox,Oy,Oz,OA⟩:=rf (x:=kd) (c:=2) (ci:=2) (by omega);clear k1 k2;go_wp2_with fail
      go_quiet (fail)
      go_wp2_with fail
      go_quiet (fail)
      go_wp2_with (go_at_call 211;refine (xg.out _ (HZ.out.1.drewN _) (HZ.out.2.1.trans (Grow.drewN _ _ _))).mono ?_;rintro e w4 ⟨A2,v,rfl,p1,p2,p3,p4⟩);go_ret;rw[HE.out];exact⟨A2,v,rfl,p1,(HZ.out.2.1.trans (Grow.drewN _ _ _)).trans p2,p3,p4⟩
end Go.Proofs.YthicolbbmjfkfaaGreat.Em
