import Derived.Test.YthicolbbmjfkfaaGreatQh7
import Derived.Test.YthicolbbmjfkfaaGreatQh8
set_option linter.unusedVariables false
set_option linter.unusedSimpArgs false
set_option maxRecDepth 100000
set_option maxHeartbeats 1600000
namespace Go.Proofs.YthicolbbmjfkfaaGreat.Em
open Go.ChangeShapes Go.WideShapes Go.ChangeAt Go.RowKit En
variable {A:au} {D:St} {w:World}
def uo (D:St) (s:Nat) (hu:dw) (F:Nat):Prop:=∀ A w,aD A D w->A.mp=0->Gi A w D s hu F
theorem Jt (hR:aD A D w) (s:Nat) (hmp:A.mp=0) (hu:dw) (F b0 b1:Nat) (B0:fT (kp A D s) A.L w b0 hu) (B1:aK A.L w b1 (zu F)) (hv:VL D F) (aQ:D.count<4000000000000000000) (HT:D.word (af F 2)=0->uo D.tick s hu 0):
 zk 213 #[R b0 0,R b1 0] w (jO A w s (D.run s (.older hu F))):=by
 have hsl:=hR.sl;obtain⟨bh,X0,hh0⟩:=B0;obtain⟨vt,TT,fh,hth⟩:=id hh0;have c0:=X0.cell;have c1:=B1.cell;have h0:w.cell? (J bh 0)=zs A.Y 0:=fh.cell 0 rfl;have e2:=hR.z2;have HK:Hid (∀ G,Kp A w G->zS G b0 0 bh 0∧zV G b1 0 F∧zS G bh 0 A.Y 0∧zS G A.Y 2 A.ba 0):=by
  obtain⟨_,x0⟩:=X0;obtain⟨_,x1⟩:=B1;exact fun G k=>⟨k.fix _ _ _ x0.1 c0,k.fix _ _ _ x1.1 c1,k.fix _ _ _ fh.1 h0,k.ea⟩
 have HS:=U (gF F 2 2 rfl hv.lo (by have:=hv.hi;omega) hv.u (by omega));have HL:=U (gM hR.drew (af F 2) (fI hR hv.lo hv.hi (by omega)) aQ);have HG:=zG A.L w;have HB:Hid (∀ H,aD A D.tick H->Grow A.L w A.L H->zk 162 #[R bh 0,zu (D.word (af F 2):Int)] H (aZ A H s (D.tick.visit s hu (D.word (af F 2))))):=
  fun H r g=>wP r s bh hu (hh0.grow g) _ fun hz=>HT hz A H r hmp
 have aN:D.run s (.older hu F)=((D.tick.visit s hu (D.word (af F 2))).1,some (D.tick.visit s hu (D.word (af F 2))).2):=rfl;rw[aN];clear hR hh0 fh hth hv aQ HT aN X0 B1 hsl hmp;generalize D.tick.visit s hu (D.word (af F 2))=res at*;generalize D.word (af F 2)=nx at*;go_enter Tryz.func213,Tryz.ntmps213;go_wp2_with fail
 go_region_held3 (fun G=>zS G b0 0 bh 0∧zV G b1 0 F∧zS G bh 0 A.Y 0∧zS G A.Y 2 A.ba 0)
  (first|exact⟨c0,c1,h0,e2⟩|assumption|exact HK.out _ (Kp.of (by assumption) (by assumption) (by assumption)))
  (first|(go_at_call 85;refine (HS.out _).mono ?_;rintro e G ⟨rfl,rfl⟩)|(go_at_call 42;refine HL.out.mono ?_;rintro e H ⟨rfl,q1,q2⟩;have q4:=HG.out.trans q2;have q3:=bL.refl A s;clear q2)|(go_at_call 162;refine (HB.out _ (by assumption) (by assumption)).mono ?_;rintro e w2 ⟨A',v,rfl,p1,p2,p3,p4⟩;have p5:=(‹Grow A.L w A.L _›).trans p2))
 go_wp2_with fail;go_ret;exact⟨A',_,rfl,p1,p5,p3,p4⟩
theorem Ju (hR:aD A D w) (s:Nat) (hu:dw) (F id b0 b1 b2:Nat) (B0:fT (kp A D s) A.L w b0 hu) (B1:aK A.L w b1 (I id)) (B2:aK A.L w b2 (zu F)) (hid:id<=65535) (hpl:D.place id<D.words.length) (hw:D.word (D.place id)<18446744073709551616) (aQ:D.count<4000000000000000000):
 zk 202 #[R b0 0,R b1 0,R b2 0] w (jO A w s (D.run s (.maker hu F id))):=by
 obtain⟨bh,X0,hh0⟩:=B0;obtain⟨vt,TT,fh,hth⟩:=_root_.id hh0;have c0:=X0.cell;have c1:=B1.cell;have h0:w.cell? (J bh 0)=zs A.Y 0:=fh.cell 0 rfl;have e2:=hR.z2;have HK:Hid (∀ G,Kp A w G->zS G b0 0 bh 0∧zT G b1 0 id∧zS G bh 0 A.Y 0∧zS G A.Y 2 A.ba 0):=by
  obtain⟨_,x0⟩:=X0;obtain⟨_,x1⟩:=B1;exact fun G k=>⟨k.fix _ _ _ x0.1 c0,k.fix _ _ _ x1.1 c1,k.fix _ _ _ fh.1 h0,k.ea⟩
 have HP:=U (fB hR.drew id hid);have HL:=U (gM hR.drew (D.place id) hpl aQ);have HU:=U (fun G=>jN (D.word (D.place id)) hw G);have HG:=zG A.L w;have HB:Hid (∀ H,aD A D.tick H->Grow A.L w A.L H->zS H b0 0 bh 0∧zT H b1 0 id∧zV H b2 0 F∧zV H bh 3 hu.at_∧dE (kp A D.tick s) A.L H bh hu):=by
  intro H q g;have k:dE (kp A D.tick s) A.L H bh hu:=hh0.grow g;exact⟨(X0.grow g).cell,(B1.grow g).cell,(B2.grow g).cell,(fh.grow g).cell 3 rfl,k⟩
 have aN:D.run s (.maker hu F id)=(D.tick,some (if gD (D.word (D.place id))=0∨hu.at_<gD (D.word (D.place id))∨bA (D.word (D.place id))=4 then .older hu F else if bA (D.word (D.place id))=2 then .ended hu F id else .ended hu F 0)):=by
  simp only[St.run];split<;>(try split)<;>rfl
 rw[aN];have Ae:Hid (∀ H,aD A D.tick H->Grow A.L w A.L H->zk 201 #[R bh 0,zu F] H (aZ A H s (D.tick,.older hu F))):=fun H q g=>kV q s bh hu (show dE (kp A D.tick s) A.L H bh hu from hh0.grow g) F
 have QO:Hid (∀ H,aD A D.tick H->Grow A.L w A.L H->zk 200 #[R bh 0,zu F,I id] H (aZ A H s (D.tick,.ended hu F id))):=fun H q g=>qZ q s bh hu (show dE (kp A D.tick s) A.L H bh hu from hh0.grow g) F id
 have Oy:Hid (∀ H,aD A D.tick H->Grow A.L w A.L H->zk 200 #[R bh 0,zu F,I 0] H (aZ A H s (D.tick,.ended hu F 0))):=fun H q g=>qZ q s bh hu (show dE (kp A D.tick s) A.L H bh hu from hh0.grow g) F 0
 clear hR hid hpl hw aQ X0 B1 B2 fh hth hh0 aN;generalize D.word (D.place id)=x at*;generalize hst:bA x=st at*;generalize hen:gD x=en at*;generalize hu.at_=ha at*;clear hst hen
 by_cases EG:en=0
 . rw[aV (Or.inl EG)]
   obtain⟨fa1,fa2,fa3,fa4,fa5⟩:=qX (x:=en) (c:=0) (ci:=0) (by omega);clear EG;go_enter Tryz.func202,Tryz.ntmps202;go_wp2_with fail
   go_region_held3 (fun G=>zS G b0 0 bh 0∧zT G b1 0 id∧zS G bh 0 A.Y 0∧zS G A.Y 2 A.ba 0)
    (first|exact⟨c0,c1,h0,e2⟩|assumption|exact HK.out _ (Kp.of (by assumption) (by assumption) (by assumption)))
    (first|(go_at_call 48;refine HP.out.mono ?_;rintro e G ⟨rfl,rfl⟩)|(go_at_call 42;refine HL.out.mono ?_;rintro e H ⟨rfl,q1,q2⟩;have q4:=HG.out.trans q2;have q3:=bL.refl A s;clear q2)|(go_at_call 109;refine (HU.out _).mono ?_;rintro e G ⟨rfl,rfl⟩))
   obtain⟨d0,d1,d2,d3,V⟩:=HB.out _ (by assumption) (by assumption);have HQ:=U (zA (‹aD A D.tick _›) (zA (‹Grow A.L w A.L _›) V));clear V;go_wp2_with (go_at_call 201;refine (Ae.out _ HQ.out.1 HQ.out.2.1).mono ?_;rintro e w2 ⟨A2,v,rfl,p1,p2,p3,p4⟩);go_ret;exact⟨A2,v,rfl,p1,HQ.out.2.1.trans p2,p3,p4⟩
 . have fa1:((en:Int)==0)=false:=by simp<;>omega
   have fa2:((en:Int)=0)=False:=by simp<;>omega
   have fa3:(en=0)=False:=by simp<;>omega
   have fa4:(en==0)=false:=by simp<;>omega
   have fa5:((en:Int) !=0)=true:=by simp<;>omega
   by_cases hlt:ha<en
   . rw[aV (Or.inr (Or.inl hlt))]
     obtain⟨Gq,Gr,Gs,Gt⟩:=QF (x:=ha) (c:=en) (xi:=(ha:Int)) (ci:=(en:Int)) (by omega);clear EG hlt;go_enter Tryz.func202,Tryz.ntmps202;go_wp2_with fail
     go_region_held3 (fun G=>zS G b0 0 bh 0∧zT G b1 0 id∧zS G bh 0 A.Y 0∧zS G A.Y 2 A.ba 0)
      (first|exact⟨c0,c1,h0,e2⟩|assumption|exact HK.out _ (Kp.of (by assumption) (by assumption) (by assumption)))
      (first|(go_at_call 48;refine HP.out.mono ?_;rintro e G ⟨rfl,rfl⟩)|(go_at_call 42;refine HL.out.mono ?_;rintro e H ⟨rfl,q1,q2⟩;have q4:=HG.out.trans q2;have q3:=bL.refl A s;clear q2)|(go_at_call 109;refine (HU.out _).mono ?_;rintro e G ⟨rfl,rfl⟩))
     obtain⟨d0,d1,d2,d3,V⟩:=HB.out _ (by assumption) (by assumption);have HQ:=U (zA (‹aD A D.tick _›) (zA (‹Grow A.L w A.L _›) V));clear V;go_wp2_with (go_at_call 201;refine (Ae.out _ HQ.out.1 HQ.out.2.1).mono ?_;rintro e w2 ⟨A2,v,rfl,p1,p2,p3,p4⟩);go_ret;exact⟨A2,v,rfl,p1,HQ.out.2.1.trans p2,p3,p4⟩
   . have Gq:decide ((ha:Int)<(en:Int))=false:=by simp<;>omega
     have Gr:((ha:Int)<(en:Int))=False:=by simp<;>omega
     have Gs:(ha<en)=False:=by simp<;>omega
     have Gt:decide (ha<en)=false:=by simp<;>omega
     by_cases h4:st=4
     . rw[aV (Or.inr (Or.inr h4))]
       obtain⟨Jv,Jw,Jy,Jz,JA⟩:=qX (x:=st) (c:=4) (ci:=4) (by omega);clear EG hlt h4;go_enter Tryz.func202,Tryz.ntmps202;go_wp2_with fail
       go_region_held3 (fun G=>zS G b0 0 bh 0∧zT G b1 0 id∧zS G bh 0 A.Y 0∧zS G A.Y 2 A.ba 0)
        (first|exact⟨c0,c1,h0,e2⟩|assumption|exact HK.out _ (Kp.of (by assumption) (by assumption) (by assumption)))
        (first|(go_at_call 48;refine HP.out.mono ?_;rintro e G ⟨rfl,rfl⟩)|(go_at_call 42;refine HL.out.mono ?_;rintro e H ⟨rfl,q1,q2⟩;have q4:=HG.out.trans q2;have q3:=bL.refl A s;clear q2)|(go_at_call 109;refine (HU.out _).mono ?_;rintro e G ⟨rfl,rfl⟩))
       obtain⟨d0,d1,d2,d3,V⟩:=HB.out _ (by assumption) (by assumption);have HQ:=U (zA (‹aD A D.tick _›) (zA (‹Grow A.L w A.L _›) V));clear V;go_wp2_with (go_at_call 201;refine (Ae.out _ HQ.out.1 HQ.out.2.1).mono ?_;rintro e w2 ⟨A2,v,rfl,p1,p2,p3,p4⟩);go_ret;exact⟨A2,v,rfl,p1,HQ.out.2.1.trans p2,p3,p4⟩
     . rw[aX (by omega)]
       obtain⟨Jv,Jw,Jy,Jz,JA⟩:=o9 (x:=st) (c:=4) (ci:=4) (by omega)
       by_cases h2:st=2
       . rw[aV h2]
         obtain⟨fd1,L6,L8,L9,Ma⟩:=qX (x:=st) (c:=2) (ci:=2) (by omega);clear EG hlt h4 h2;go_enter Tryz.func202,Tryz.ntmps202;go_wp2_with fail
         go_region_held3 (fun G=>zS G b0 0 bh 0∧zT G b1 0 id∧zS G bh 0 A.Y 0∧zS G A.Y 2 A.ba 0)
          (first|exact⟨c0,c1,h0,e2⟩|assumption|exact HK.out _ (Kp.of (by assumption) (by assumption) (by assumption)))
          (first|(go_at_call 48;refine HP.out.mono ?_;rintro e G ⟨rfl,rfl⟩)|(go_at_call 42;refine HL.out.mono ?_;rintro e H ⟨rfl,q1,q2⟩;have q4:=HG.out.trans q2;have q3:=bL.refl A s;clear q2)|(go_at_call 109;refine (HU.out _).mono ?_;rintro e G ⟨rfl,rfl⟩))
         obtain⟨d0,d1,d2,d3,V⟩:=HB.out _ (by assumption) (by assumption);have HQ:=U (zA (‹aD A D.tick _›) (zA (‹Grow A.L w A.L _›) V));clear V;go_wp2_with (go_at_call 200;refine (QO.out _ HQ.out.1 HQ.out.2.1).mono ?_;rintro e w2 ⟨A2,v,rfl,p1,p2,p3,p4⟩);go_ret;exact⟨A2,v,rfl,p1,HQ.out.2.1.trans p2,p3,p4⟩
       . rw[aX h2]
         obtain⟨fd1,L6,L8,L9,Ma⟩:=o9 (x:=st) (c:=2) (ci:=2) (by omega);clear EG hlt h4 h2;go_enter Tryz.func202,Tryz.ntmps202;go_wp2_with fail
         go_region_held3 (fun G=>zS G b0 0 bh 0∧zT G b1 0 id∧zS G bh 0 A.Y 0∧zS G A.Y 2 A.ba 0)
          (first|exact⟨c0,c1,h0,e2⟩|assumption|exact HK.out _ (Kp.of (by assumption) (by assumption) (by assumption)))
          (first|(go_at_call 48;refine HP.out.mono ?_;rintro e G ⟨rfl,rfl⟩)|(go_at_call 42;refine HL.out.mono ?_;rintro e H ⟨rfl,q1,q2⟩;have q4:=HG.out.trans q2;have q3:=bL.refl A s;clear q2)|(go_at_call 109;refine (HU.out _).mono ?_;rintro e G ⟨rfl,rfl⟩))
         obtain⟨d0,d1,d2,d3,V⟩:=HB.out _ (by assumption) (by assumption);have HQ:=U (zA (‹aD A D.tick _›) (zA (‹Grow A.L w A.L _›) V));clear V;go_wp2_with (go_at_call 200;refine (Oy.out _ HQ.out.1 HQ.out.2.1).mono ?_;rintro e w2 ⟨A2,v,rfl,p1,p2,p3,p4⟩);go_ret;exact⟨A2,v,rfl,p1,HQ.out.2.1.trans p2,p3,p4⟩
end Go.Proofs.YthicolbbmjfkfaaGreat.Em
