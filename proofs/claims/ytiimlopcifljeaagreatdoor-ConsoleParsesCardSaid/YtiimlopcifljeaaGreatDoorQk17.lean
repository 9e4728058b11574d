import Derived.Test.YtiimlopcifljeaaGreatDoorQk12
import Derived.Test.YtiimlopcifljeaaGreatDoorQk15
namespace Go.Proofs.YtiimlopcifljeaaGreatDoor.Em
open Go.ChangeShapes Go.WideShapes Go.ChangeAt Go.RowKit En
set_option linter.unusedVariables false
set_option linter.unusedSimpArgs false
set_option maxRecDepth 100000
set_option maxHeartbeats 1600000
variable {A:Book} {σ:St} {w:World}
theorem seen_any (hR:Rep A σ w) (s:Nat) (hmp:A.mp=0) (bh:Nat) (hu:Hunt) (hh:HuntAt (kp A σ s) A.L w bh hu) (link mb:Nat) (HT:mb=0→ThnTo σ s hu link):
 Calls Tryz.prog 332 #[.pointer (some ⟨bh,0,none⟩),zu (link:Int),zi (mb:Int)] w (Tells A w s (σ.seen s hu link mb)):=by
 obtain⟨r1,g1,f0,f1,f2⟩:=allocs3 hR #[.pointer (some ⟨bh,0,none⟩)] 355 #[zu (link:Int)] 33 #[zi (mb:Int)] 3;have c0:=f0.cell 0 (v:=.pointer (some ⟨bh,0,none⟩)) rfl;have c1:=f1.cell 0 (v:=zu (link:Int)) rfl;have c2:=f2.cell 0 (v:=zi (mb:Int)) rfl;have hh1:=hh.grow g1
 by_cases h0:mb=0
 · have e0:σ.seen s hu link mb=σ.thn s hu link:=by unfold St.seen;rw[if_pos h0]
   rw[e0];obtain⟨vt,TT,fh,hth⟩:=hh1;obtain⟨fv,cv,rfl,hent⟩:=hth.enter;obtain⟨fa1,fa2,fa3,fa4,fa5⟩:=zeT (x:=mb) (c:=0) (ci:=0) (by omega);have h4:=fh.cell 4 (v:=.func (.func fv) #[] cv) rfl;have gd:=Grow.drew A.L (((w.alloc (.cells #[.pointer (some ⟨bh,0,none⟩)] 355)).alloc (.cells #[zu (link:Int)] 33)).alloc (.cells #[zi (mb:Int)] 3));have hf:=HT h0 A _ r1.drew hmp _ fv cv r1.drew (Grow.refl _ _) (hth.grow gd);have HF:=zH (zA hf (g1.trans gd));clear hR hh r1 g1 f0 f1 f2 fh hth hf HT h0 e0 gd hmp;go_enter Tryz.func332,Tryz.ntmps332;go_wp2_with fail;generalize (((w.alloc _).alloc _).alloc _)=w3 at*;refine wp_region_still_tail 5 (by kernel_rfl) (by kernel_rfl) ?_;simp only[zta,ztb,ztc,ztd]
   repeat still_step
   refine wpStill_nil ?_;change wpList _ _ _ _ _ w3.drew;generalize w3.drew=wd at*;go_wp2_with fail;refine HF.out.1.mono ?_;rintro e w4 ⟨A',v,rfl,q1,q2,q3,q4⟩;go_wp2_with fail;go_ret;exact⟨A',v,rfl,q1,HF.out.2.trans q2,q3,q4⟩
 · have e0:σ.seen s hu link mb=(σ,.seen hu link mb):=by unfold St.seen;rw[if_neg h0]
   rw[e0];obtain⟨fa1,fa2,fa3,fa4,fa5⟩:=zeF (x:=mb) (c:=0) (ci:=0) (by omega);have HQ:=zH (zA r1 (zA g1 (zA f0 (zA f1 (zA f2 hh1)))));clear hR hh r1 g1 f0 f1 f2 hh1 HT h0 e0 hmp;go_enter Tryz.func332,Tryz.ntmps332;go_wp2_with fail;go_ret;obtain⟨r1,g1,f0,f1,f2,hh1⟩:=HQ.out;exact⟨A,_,rfl,r1,g1,Stay.refl _ _,_,_,_,rfl,⟨_,f0.box,hh1⟩,f2.box,f1.box⟩
theorem k_ender (hR:Rep A σ w) (s:Nat) (hmp:A.mp=0) (t:Txn) (ht:σ.txns.getD s none=some t) (hu:Hunt) (link mb id b0 b1 b2 b3:Nat) (B0:HuntBox (kp A σ s) A.L w b0 hu) (B1:Box A.L w b1 (zi (id:Int))) (B2:Box A.L w b2 (zu (link:Int))) (B3:Box A.L w b3 (zi (mb:Int))) (hid:id≤65535) (hpl:σ.place id<σ.words.length) (hw:σ.word (σ.place id)<18446744073709551616) (hbn:t.bonds.length<1000000) (htl:σ.tale.length<1000000) (hcnt:σ.count<4000000000000000000) (HT:mb=0→ThnTo σ.tick s hu link):
 Calls Tryz.prog 337 #[.pointer (some ⟨b0,0,none⟩),.pointer (some ⟨b1,0,none⟩),.pointer (some ⟨b2,0,none⟩),.pointer (some ⟨b3,0,none⟩)] w (Ran A w s (σ.run s (.ender hu link mb id))):=by
 obtain⟨bh,X0,hh0⟩:=B0;obtain⟨vt,TT,fh,hth⟩:=_root_.id hh0;have c0:=X0.cell;have c1:=B1.cell;have h0:w.cell? ⟨bh,0,none⟩=some (.pointer (some ⟨A.be,0,none⟩)):=fh.cell 0 rfl;have e2:=hR.z2;have HK:Hid (∀ w',Kp A w w'→w'.cell? ⟨b0,0,none⟩=some (.pointer (some ⟨bh,0,none⟩))∧w'.cell? ⟨b1,0,none⟩=some (zi (id:Int))∧w'.cell? ⟨bh,0,none⟩=some (.pointer (some ⟨A.be,0,none⟩))∧w'.cell? ⟨A.be,2,none⟩=some (.pointer (some ⟨A.ba,0,none⟩))):=by
  obtain⟨_,x0⟩:=X0;obtain⟨_,x1⟩:=B1;exact fun w' k=>⟨k.fix _ _ _ x0.1 c0,k.fix _ _ _ x1.1 c1,k.fix _ _ _ fh.1 h0,k.ea⟩
 have HP:=zH (place_still hR.drew id hid);have HL:=zH (load_any hR.drew (σ.place id) hpl hcnt);have HU:=zH (fun w'=>unpack_any (σ.word (σ.place id)) hw w');have HG:=zG A.L w;have HB:Hid (∀ w1,Rep A σ.tick w1→Grow A.L w A.L w1→w1.cell? ⟨b0,0,none⟩=some (.pointer (some ⟨bh,0,none⟩))∧w1.cell? ⟨b1,0,none⟩=some (zi (id:Int))∧w1.cell? ⟨b2,0,none⟩=some (zu (link:Int))∧w1.cell? ⟨b3,0,none⟩=some (zi (mb:Int))∧w1.cell? ⟨bh,0,none⟩=some (.pointer (some ⟨A.be,0,none⟩))∧w1.cell? ⟨bh,1,none⟩=some (.pointer (some ⟨A.bt s,0,none⟩))∧w1.cell? ⟨bh,3,none⟩=some (zu (hu.at_:Int))):=by
  intro w1 q g;exact⟨(X0.grow g).cell,(B1.grow g).cell,(B2.grow g).cell,(B3.grow g).cell,(fh.grow g).cell 0 rfl,(fh.grow g).cell 1 rfl,(fh.grow g).cell 3 rfl⟩
 have HHU:Hid (∀ A' σ' w1,Grow A.L w A'.L w1→kp A' σ' s=kp A σ s→HuntAt (kp A' σ' s) A'.L w1 bh hu):=fun A' σ' w1 g e=>by rw[e];exact hh0.grow g
 have HBI:Hid (∀ w1,Rep A σ.tick w1→Calls Tryz.prog 336 #[.pointer (some ⟨A.be,0,none⟩),.pointer (some ⟨A.bt s,0,none⟩),zi (id:Int)] w1.drew (Does A w1.drew s (σ.tick.bind s id) (.tuple #[]))):=fun w1 q=>bind_any q.drew s t ht id hid hbn htl
 have hbc:(σ.tick.bind s id).calls=σ.calls:=by unfold St.bind;split<;>rfl
 have hcc:((σ.tick.bind s id).c s)=σ.c s:=by unfold St.c;rw[hbc]
 have HCC:=zH hcc;have HCE:Hid (∀ (A':Book) w1,Grow A.L w A'.L w1→w1.cell? ⟨b0,0,none⟩=some (.pointer (some ⟨bh,0,none⟩))∧w1.cell? ⟨b2,0,none⟩=some (zu (link:Int))∧w1.cell? ⟨bh,4,none⟩=some vt):=fun A' w1 g=>⟨(X0.grow g).cell,(B2.grow g).cell,(fh.grow g).cell 4 rfl⟩
 have hrun:σ.run s (.ender hu link mb id)=if endOf (σ.word (σ.place id))=0∨hu.at_<endOf (σ.word (σ.place id))∨stateOf (σ.word (σ.place id))=4 then ((σ.tick.seen s hu link mb).1,some (σ.tick.seen s hu link mb).2) else if stateOf (σ.word (σ.place id))=2 then (σ.tick.bind s id,some (.older hu link)) else (σ.tick,some (.older hu link)):=by
  simp only[St.run]
 rw[hrun];have HSeen:Hid (∀ w1,Rep A σ.tick w1→Grow A.L w A.L w1→Calls Tryz.prog 332 #[.pointer (some ⟨bh,0,none⟩),zu (link:Int),zi (mb:Int)] w1 (Tells A w1 s (σ.tick.seen s hu link mb))):=fun w1 q g=>seen_any q s hmp bh hu (show HuntAt (kp A σ.tick s) A.L w1 bh hu from hh0.grow g) link mb HT
 have HOld:Hid (∀ A' σ' w1,Rep A' σ' w1→HuntAt (kp A' σ' s) A'.L w1 bh hu→Calls Tryz.prog 321 #[.pointer (some ⟨bh,0,none⟩),zu (link:Int)] w1 (Tells A' w1 s (σ',.older hu link))):=fun A' σ' w1 q hk=>older_any q s bh hu hk link
 clear hR hid hpl hw hcnt X0 B1 B2 B3 fh hth hh0 hrun hmp HT hbn htl hbc hcc ht;generalize σ.word (σ.place id)=x at*;generalize hst:stateOf x=st at*;generalize hen:endOf x=en at*;generalize hu.at_=ha at*;clear hst hen
 by_cases h0e:en=0
 · rw[if_pos (Or.inl h0e)]
   obtain⟨fa1,fa2,fa3,fa4,fa5⟩:=zeT (x:=en) (c:=0) (ci:=0) (by omega);clear h0e;go_enter Tryz.func337,Tryz.ntmps337;go_wp2_with fail
   go_region_held3 (fun w'=>w'.cell? ⟨b0,0,none⟩=some (.pointer (some ⟨bh,0,none⟩))∧w'.cell? ⟨b1,0,none⟩=some (zi (id:Int))∧w'.cell? ⟨bh,0,none⟩=some (.pointer (some ⟨A.be,0,none⟩))∧w'.cell? ⟨A.be,2,none⟩=some (.pointer (some ⟨A.ba,0,none⟩)))
    (first|exact⟨c0,c1,h0,e2⟩|assumption|exact HK.out _ (Kp.of (by assumption) (by assumption) (by assumption)))
    (first|(go_at_call 72;refine HP.out.mono ?_;rintro e w' ⟨rfl,rfl⟩)|(go_at_call 66;refine HL.out.mono ?_;rintro e w1 ⟨rfl,q1,q2⟩;have q4:=HG.out.trans q2;have q3:=Stay.refl A s;clear q2)|(go_at_call 119;refine (HU.out _).mono ?_;rintro e w' ⟨rfl,rfl⟩))
   have HQ:=zH (zA (‹Rep A σ.tick _›) (‹Grow A.L w A.L _›));obtain⟨d0,d1,d2,d3,d4,d5,d6⟩:=HB.out _ HQ.out.1 HQ.out.2;go_wp2_with (go_at_call 332;refine (HSeen.out _ HQ.out.1 HQ.out.2).mono ?_;rintro e w2 ⟨A2,v,rfl,p1,p2,p3,p4⟩);go_ret;exact⟨A2,v,rfl,p1,HQ.out.2.trans p2,p3,p4⟩
 · have fa1:((en:Int)==0)=false:=by simp<;>omega
   have fa2:((en:Int)=0)=False:=by simp<;>omega
   have fa3:(en=0)=False:=by simp<;>omega
   have fa4:(en==0)=false:=by simp<;>omega
   have fa5:((en:Int) !=0)=true:=by simp<;>omega
   by_cases hlt:ha<en
   · rw[if_pos (Or.inr (Or.inl hlt))]
     obtain⟨fb1,fb2,fb3,fb4⟩:=zlt (x:=ha) (c:=en) (xi:=(ha:Int)) (ci:=(en:Int)) (by omega);clear h0e hlt;go_enter Tryz.func337,Tryz.ntmps337;go_wp2_with fail
     go_region_held3 (fun w'=>w'.cell? ⟨b0,0,none⟩=some (.pointer (some ⟨bh,0,none⟩))∧w'.cell? ⟨b1,0,none⟩=some (zi (id:Int))∧w'.cell? ⟨bh,0,none⟩=some (.pointer (some ⟨A.be,0,none⟩))∧w'.cell? ⟨A.be,2,none⟩=some (.pointer (some ⟨A.ba,0,none⟩)))
      (first|exact⟨c0,c1,h0,e2⟩|assumption|exact HK.out _ (Kp.of (by assumption) (by assumption) (by assumption)))
      (first|(go_at_call 72;refine HP.out.mono ?_;rintro e w' ⟨rfl,rfl⟩)|(go_at_call 66;refine HL.out.mono ?_;rintro e w1 ⟨rfl,q1,q2⟩;have q4:=HG.out.trans q2;have q3:=Stay.refl A s;clear q2)|(go_at_call 119;refine (HU.out _).mono ?_;rintro e w' ⟨rfl,rfl⟩))
     have HQ:=zH (zA (‹Rep A σ.tick _›) (‹Grow A.L w A.L _›));obtain⟨d0,d1,d2,d3,d4,d5,d6⟩:=HB.out _ HQ.out.1 HQ.out.2;go_wp2_with (go_at_call 332;refine (HSeen.out _ HQ.out.1 HQ.out.2).mono ?_;rintro e w2 ⟨A2,v,rfl,p1,p2,p3,p4⟩);go_ret;exact⟨A2,v,rfl,p1,HQ.out.2.trans p2,p3,p4⟩
   · have fb1:decide ((ha:Int)<(en:Int))=false:=by simp<;>omega
     have fb2:((ha:Int)<(en:Int))=False:=by simp<;>omega
     have fb3:(ha<en)=False:=by simp<;>omega
     have fb4:decide (ha<en)=false:=by simp<;>omega
     by_cases h4:st=4
     · rw[if_pos (Or.inr (Or.inr h4))]
       obtain⟨fc1,fc2,fc3,fc4,fc5⟩:=zeT (x:=st) (c:=4) (ci:=4) (by omega);clear h0e hlt h4;go_enter Tryz.func337,Tryz.ntmps337;go_wp2_with fail
       go_region_held3 (fun w'=>w'.cell? ⟨b0,0,none⟩=some (.pointer (some ⟨bh,0,none⟩))∧w'.cell? ⟨b1,0,none⟩=some (zi (id:Int))∧w'.cell? ⟨bh,0,none⟩=some (.pointer (some ⟨A.be,0,none⟩))∧w'.cell? ⟨A.be,2,none⟩=some (.pointer (some ⟨A.ba,0,none⟩)))
        (first|exact⟨c0,c1,h0,e2⟩|assumption|exact HK.out _ (Kp.of (by assumption) (by assumption) (by assumption)))
        (first|(go_at_call 72;refine HP.out.mono ?_;rintro e w' ⟨rfl,rfl⟩)|(go_at_call 66;refine HL.out.mono ?_;rintro e w1 ⟨rfl,q1,q2⟩;have q4:=HG.out.trans q2;have q3:=Stay.refl A s;clear q2)|(go_at_call 119;refine (HU.out _).mono ?_;rintro e w' ⟨rfl,rfl⟩))
       have HQ:=zH (zA (‹Rep A σ.tick _›) (‹Grow A.L w A.L _›));obtain⟨d0,d1,d2,d3,d4,d5,d6⟩:=HB.out _ HQ.out.1 HQ.out.2;go_wp2_with (go_at_call 332;refine (HSeen.out _ HQ.out.1 HQ.out.2).mono ?_;rintro e w2 ⟨A2,v,rfl,p1,p2,p3,p4⟩);go_ret;exact⟨A2,v,rfl,p1,HQ.out.2.trans p2,p3,p4⟩
     · rw[if_neg (by omega)]
       obtain⟨fc1,fc2,fc3,fc4,fc5⟩:=zeF (x:=st) (c:=4) (ci:=4) (by omega)
       by_cases h2:st=2
       · rw[if_pos h2]
         obtain⟨fd1,fd2,fd3,fd4,fd5⟩:=zeT (x:=st) (c:=2) (ci:=2) (by omega);clear h0e hlt h4 h2;go_enter Tryz.func337,Tryz.ntmps337;go_wp2_with fail
         go_region_held3 (fun w'=>w'.cell? ⟨b0,0,none⟩=some (.pointer (some ⟨bh,0,none⟩))∧w'.cell? ⟨b1,0,none⟩=some (zi (id:Int))∧w'.cell? ⟨bh,0,none⟩=some (.pointer (some ⟨A.be,0,none⟩))∧w'.cell? ⟨A.be,2,none⟩=some (.pointer (some ⟨A.ba,0,none⟩)))
          (first|exact⟨c0,c1,h0,e2⟩|assumption|exact HK.out _ (Kp.of (by assumption) (by assumption) (by assumption)))
          (first|(go_at_call 72;refine HP.out.mono ?_;rintro e w' ⟨rfl,rfl⟩)|(go_at_call 66;refine HL.out.mono ?_;rintro e w1 ⟨rfl,q1,q2⟩;have q4:=HG.out.trans q2;have q3:=Stay.refl A s;clear q2)|(go_at_call 119;refine (HU.out _).mono ?_;rintro e w' ⟨rfl,rfl⟩))
         have HQ:=zH (zA (‹Rep A σ.tick _›) (‹Grow A.L w A.L _›));obtain⟨d0,d1,d2,d3,d4,d5,d6⟩:=HB.out _ HQ.out.1 HQ.out.2;go_wp2_with fail;refine wp_region_still_tail 9 (by kernel_rfl) (by kernel_rfl) ?_;simp only[zta,ztb,ztc,ztd]
         repeat still_step
         refine wpStill_nil ?_;change wpList _ _ _ _ _ w1.drew;have HGD:=zH (HQ.out.2.trans (Grow.drew A.L w1));have HBI1:=zH (HBI.out w1 HQ.out.1);generalize w1.drew=wd at*;go_wp2_with (first|(go_at_call 336;refine HBI1.out.mono ?_;rintro e w2 ⟨rfl,A2,p1,p2,p3,p4,p5⟩;have gg:=HGD.out.trans p2;have ek:kp A2 (σ.tick.bind s id) s=kp A σ s:=kp_same p3 p4 p5 (by rw[HCC.out]) (by rw[HCC.out]);have HO2:=zH (HOld.out A2 _ w2 p1 (HHU.out A2 _ w2 gg ek));obtain⟨d0,d2,d4⟩:=HCE.out A2 w2 gg;have HQ2:=zH (zA gg p3);clear p1 p2 p3 p4 p5 gg ek)|(go_at_call 321;refine HO2.out.mono ?_;rintro e w3 ⟨A3,v,rfl,p1,p2,p3,p4⟩));go_ret;exact⟨A3,v,rfl,p1,HQ2.out.1.trans p2,HQ2.out.2.trans p3,p4⟩
       · rw[if_neg h2]
         obtain⟨fd1,fd2,fd3,fd4,fd5⟩:=zeF (x:=st) (c:=2) (ci:=2) (by omega);clear h0e hlt h4 h2;go_enter Tryz.func337,Tryz.ntmps337;go_wp2_with fail
         go_region_held3 (fun w'=>w'.cell? ⟨b0,0,none⟩=some (.pointer (some ⟨bh,0,none⟩))∧w'.cell? ⟨b1,0,none⟩=some (zi (id:Int))∧w'.cell? ⟨bh,0,none⟩=some (.pointer (some ⟨A.be,0,none⟩))∧w'.cell? ⟨A.be,2,none⟩=some (.pointer (some ⟨A.ba,0,none⟩)))
          (first|exact⟨c0,c1,h0,e2⟩|assumption|exact HK.out _ (Kp.of (by assumption) (by assumption) (by assumption)))
          (first|(go_at_call 72;refine HP.out.mono ?_;rintro e w' ⟨rfl,rfl⟩)|(go_at_call 66;refine HL.out.mono ?_;rintro e w1 ⟨rfl,q1,q2⟩;have q4:=HG.out.trans q2;have q3:=Stay.refl A s;clear q2)|(go_at_call 119;refine (HU.out _).mono ?_;rintro e w' ⟨rfl,rfl⟩))
         have HQ:=zH (zA (‹Rep A σ.tick _›) (‹Grow A.L w A.L _›));obtain⟨d0,d1,d2,d3,d4,d5,d6⟩:=HB.out _ HQ.out.1 HQ.out.2;go_wp2_with (go_at_call 321;refine (HOld.out A σ.tick _ HQ.out.1 (HHU.out A σ.tick _ HQ.out.2 rfl)).mono ?_;rintro e w2 ⟨A2,v,rfl,p1,p2,p3,p4⟩);go_ret;exact⟨A2,v,rfl,p1,HQ.out.2.trans p2,p3,p4⟩
theorem k_seen (hR:Rep A σ w) (s:Nat) (hmp:A.mp=0) (t:Txn) (ht:σ.txns.getD s none=some t) (hu:Hunt) (link mb b0 b1 b2:Nat) (B0:HuntBox (kp A σ s) A.L w b0 hu) (B1:Box A.L w b1 (zi (mb:Int))) (B2:Box A.L w b2 (zu (link:Int))) (hid:mb≤65535) (hpl:σ.place mb<σ.words.length) (hw:σ.word (σ.place mb)<18446744073709551616) (hbn:t.bonds.length<1000000) (htl:σ.tale.length<1000000) (hcnt:σ.count<4000000000000000000) (HT:ThnTo (if stateOf (σ.word (σ.place mb))=2 then σ.tick.bind s mb else σ.tick) s hu link) (hmpb:∀ A',Rep A' (σ.tick.bind s mb) w→True):
 Calls Tryz.prog 335 #[.pointer (some ⟨b0,0,none⟩),.pointer (some ⟨b1,0,none⟩),.pointer (some ⟨b2,0,none⟩)] w (Ran A w s (σ.run s (.seen hu link mb))):=by
 obtain⟨bh,X0,hh0⟩:=B0;obtain⟨vt,TT,fh,hth⟩:=_root_.id hh0;have c0:=X0.cell;have c1:=B1.cell;have h0:w.cell? ⟨bh,0,none⟩=some (.pointer (some ⟨A.be,0,none⟩)):=fh.cell 0 rfl;have e2:=hR.z2;have HK:Hid (∀ w',Kp A w w'→w'.cell? ⟨b0,0,none⟩=some (.pointer (some ⟨bh,0,none⟩))∧w'.cell? ⟨b1,0,none⟩=some (zi (mb:Int))∧w'.cell? ⟨bh,0,none⟩=some (.pointer (some ⟨A.be,0,none⟩))∧w'.cell? ⟨A.be,2,none⟩=some (.pointer (some ⟨A.ba,0,none⟩))):=by
  obtain⟨_,x0⟩:=X0;obtain⟨_,x1⟩:=B1;exact fun w' k=>⟨k.fix _ _ _ x0.1 c0,k.fix _ _ _ x1.1 c1,k.fix _ _ _ fh.1 h0,k.ea⟩
 have HP:=zH (place_still hR.drew mb hid);have HL:=zH (load_any hR.drew (σ.place mb) hpl hcnt);have HU:=zH (fun w'=>unpack_any (σ.word (σ.place mb)) hw w');have HG:=zG A.L w;have HB:Hid (∀ w1,Rep A σ.tick w1→Grow A.L w A.L w1→w1.cell? ⟨b0,0,none⟩=some (.pointer (some ⟨bh,0,none⟩))∧w1.cell? ⟨b1,0,none⟩=some (zi (mb:Int))∧w1.cell? ⟨b2,0,none⟩=some (zu (link:Int))∧w1.cell? ⟨bh,0,none⟩=some (.pointer (some ⟨A.be,0,none⟩))∧w1.cell? ⟨bh,1,none⟩=some (.pointer (some ⟨A.bt s,0,none⟩))∧w1.cell? ⟨bh,4,none⟩=some (vt)):=by
  intro w1 q g;exact⟨(X0.grow g).cell,(B1.grow g).cell,(B2.grow g).cell,(fh.grow g).cell 0 rfl,(fh.grow g).cell 1 rfl,(fh.grow g).cell 4 rfl⟩
 have HHU:Hid (∀ A' σ' w1,Grow A.L w A'.L w1→kp A' σ' s=kp A σ s→HuntAt (kp A' σ' s) A'.L w1 bh hu):=fun A' σ' w1 g e=>by rw[e];exact hh0.grow g
 have HBI:Hid (∀ w1,Rep A σ.tick w1→Calls Tryz.prog 336 #[.pointer (some ⟨A.be,0,none⟩),.pointer (some ⟨A.bt s,0,none⟩),zi (mb:Int)] w1.drew (Does A w1.drew s (σ.tick.bind s mb) (.tuple #[]))):=fun w1 q=>bind_any q.drew s t ht mb hid hbn htl
 have hbc:(σ.tick.bind s mb).calls=σ.calls:=by unfold St.bind;split<;>rfl
 have hcc:((σ.tick.bind s mb).c s)=σ.c s:=by unfold St.c;rw[hbc]
 have HCC:=zH hcc;have HCE:Hid (∀ (A':Book) w1,Grow A.L w A'.L w1→w1.cell? ⟨b0,0,none⟩=some (.pointer (some ⟨bh,0,none⟩))∧w1.cell? ⟨b2,0,none⟩=some (zu (link:Int))∧w1.cell? ⟨bh,4,none⟩=some vt):=fun A' w1 g=>⟨(X0.grow g).cell,(B2.grow g).cell,(fh.grow g).cell 4 rfl⟩
 have hrun:σ.run s (.seen hu link mb)=if stateOf (σ.word (σ.place mb))=4 then (σ.tick,some (.start hu)) else if stateOf (σ.word (σ.place mb))=2 then (((σ.tick.bind s mb).thn s hu link).1,some ((σ.tick.bind s mb).thn s hu link).2) else ((σ.tick.thn s hu link).1,some (σ.tick.thn s hu link).2):=by
  simp only[St.run];split
  · rfl
  · split<;>rfl
 rw[hrun];obtain⟨fv,cv,rfl,hent⟩:=hth.enter;have HTH:Hid (∀ A' σ' w1,Grow A.L w A'.L w1→kp A' σ' s=kp A σ s→ThnRep (kp A' σ' s) A'.L w1 (.func (.func fv) #[] cv) hu.key hu.thn):=fun A' σ' w1 g e=>by rw[e];exact hth.grow g
 have HTT:=zH HT;have HMP:=zH hmp;clear hR hid hpl hw hcnt X0 B1 B2 fh hth hh0 hrun hmp HT hbn htl hbc hcc ht hmpb;generalize σ.word (σ.place mb)=x at*;generalize hst:stateOf x=st at*;generalize hen:endOf x=en at*;clear hst hen
 by_cases h4:st=4
 · rw[if_pos h4]
   obtain⟨fc1,fc2,fc3,fc4,fc5⟩:=zeT (x:=st) (c:=4) (ci:=4) (by omega);clear h4 HTT;go_enter Tryz.func335,Tryz.ntmps335;go_wp2_with fail
   go_region_held3 (fun w'=>w'.cell? ⟨b0,0,none⟩=some (.pointer (some ⟨bh,0,none⟩))∧w'.cell? ⟨b1,0,none⟩=some (zi (mb:Int))∧w'.cell? ⟨bh,0,none⟩=some (.pointer (some ⟨A.be,0,none⟩))∧w'.cell? ⟨A.be,2,none⟩=some (.pointer (some ⟨A.ba,0,none⟩)))
    (first|exact⟨c0,c1,h0,e2⟩|assumption|exact HK.out _ (Kp.of (by assumption) (by assumption) (by assumption)))
    (first|(go_at_call 72;refine HP.out.mono ?_;rintro e w' ⟨rfl,rfl⟩)|(go_at_call 66;refine HL.out.mono ?_;rintro e w1 ⟨rfl,q1,q2⟩;have q4:=HG.out.trans q2;have q3:=Stay.refl A s;clear q2)|(go_at_call 119;refine (HU.out _).mono ?_;rintro e w' ⟨rfl,rfl⟩))
   have HQ:=zH (zA (‹Rep A σ.tick _›) (‹Grow A.L w A.L _›));obtain⟨d0,d1,d2,d4,d5,d6⟩:=HB.out _ HQ.out.1 HQ.out.2;go_wp2_with fail;go_ret;exact⟨A,_,rfl,HQ.out.1,HQ.out.2,Stay.refl _ _,_,rfl,HHU.out A σ.tick _ HQ.out.2 rfl⟩
 · rw[if_neg h4]
   obtain⟨fc1,fc2,fc3,fc4,fc5⟩:=zeF (x:=st) (c:=4) (ci:=4) (by omega)
   by_cases h2:st=2
   · rw[if_pos h2]
     rw[if_pos h2] at HTT;obtain⟨fd1,fd2,fd3,fd4,fd5⟩:=zeT (x:=st) (c:=2) (ci:=2) (by omega);clear h4 h2;go_enter Tryz.func335,Tryz.ntmps335;go_wp2_with fail
     go_region_held3 (fun w'=>w'.cell? ⟨b0,0,none⟩=some (.pointer (some ⟨bh,0,none⟩))∧w'.cell? ⟨b1,0,none⟩=some (zi (mb:Int))∧w'.cell? ⟨bh,0,none⟩=some (.pointer (some ⟨A.be,0,none⟩))∧w'.cell? ⟨A.be,2,none⟩=some (.pointer (some ⟨A.ba,0,none⟩)))
      (first|exact⟨c0,c1,h0,e2⟩|assumption|exact HK.out _ (Kp.of (by assumption) (by assumption) (by assumption)))
      (first|(go_at_call 72;refine HP.out.mono ?_;rintro e w' ⟨rfl,rfl⟩)|(go_at_call 66;refine HL.out.mono ?_;rintro e w1 ⟨rfl,q1,q2⟩;have q4:=HG.out.trans q2;have q3:=Stay.refl A s;clear q2)|(go_at_call 119;refine (HU.out _).mono ?_;rintro e w' ⟨rfl,rfl⟩))
     have HQ:=zH (zA (‹Rep A σ.tick _›) (‹Grow A.L w A.L _›));obtain⟨d0,d1,d2,d4,d5,d6⟩:=HB.out _ HQ.out.1 HQ.out.2;go_wp2_with fail;refine wp_region_still_tail 9 (by kernel_rfl) (by kernel_rfl) ?_;simp only[zta,ztb,ztc,ztd]
     repeat still_step
     refine wpStill_nil ?_;change wpList _ _ _ _ _ w1.drew;have HGD:=zH (HQ.out.2.trans (Grow.drew A.L w1));have HBI1:=zH (HBI.out w1 HQ.out.1);generalize w1.drew=wd at*;go_wp2_with (go_at_call 336;refine HBI1.out.mono ?_;rintro e w2 ⟨rfl,A2,p1,p2,p3,p4,p5⟩;have gg:=HGD.out.trans p2;have ek:kp A2 (σ.tick.bind s mb) s=kp A σ s:=kp_same p3 p4 p5 (by rw[HCC.out]) (by rw[HCC.out]);obtain⟨d0,d2,d4⟩:=HCE.out A2 w2 gg;have HQ2:=zH (zA gg (zA p3 (zA p1 (zA ek (p3.mp.trans HMP.out)))));clear p1 p2 p3 p4 p5 gg ek);refine wp_region_still_tail 5 (by kernel_rfl) (by kernel_rfl) ?_;simp only[zta,ztb,ztc,ztd]
     repeat still_step
     refine wpStill_nil ?_;change wpList _ _ _ _ _ w2.drew;have HGD2:=zH (HQ2.out.1.trans (Grow.drew A2.L w2));have HTA:=HTT.out A2 w2.drew HQ2.out.2.2.1.drew HQ2.out.2.2.2.2 _ fv cv HQ2.out.2.2.1.drew (Grow.refl _ _) (HTH.out A2 _ _ HGD2.out HQ2.out.2.2.2.1);have HF:=zH HTA;clear HTA;generalize w2.drew=wd2 at*;go_wp2_with fail;refine HF.out.mono ?_;rintro e w4 ⟨A',v,rfl,q1,q2,q3,q4⟩;go_wp2_with fail;go_ret;exact⟨A',v,rfl,q1,HGD2.out.trans q2,HQ2.out.2.1.trans q3,q4⟩
   · rw[if_neg h2]
     rw[if_neg h2] at HTT;obtain⟨fd1,fd2,fd3,fd4,fd5⟩:=zeF (x:=st) (c:=2) (ci:=2) (by omega);clear h4 h2;go_enter Tryz.func335,Tryz.ntmps335;go_wp2_with fail
     go_region_held3 (fun w'=>w'.cell? ⟨b0,0,none⟩=some (.pointer (some ⟨bh,0,none⟩))∧w'.cell? ⟨b1,0,none⟩=some (zi (mb:Int))∧w'.cell? ⟨bh,0,none⟩=some (.pointer (some ⟨A.be,0,none⟩))∧w'.cell? ⟨A.be,2,none⟩=some (.pointer (some ⟨A.ba,0,none⟩)))
      (first|exact⟨c0,c1,h0,e2⟩|assumption|exact HK.out _ (Kp.of (by assumption) (by assumption) (by assumption)))
      (first|(go_at_call 72;refine HP.out.mono ?_;rintro e w' ⟨rfl,rfl⟩)|(go_at_call 66;refine HL.out.mono ?_;rintro e w1 ⟨rfl,q1,q2⟩;have q4:=HG.out.trans q2;have q3:=Stay.refl A s;clear q2)|(go_at_call 119;refine (HU.out _).mono ?_;rintro e w' ⟨rfl,rfl⟩))
     have HQ:=zH (zA (‹Rep A σ.tick _›) (‹Grow A.L w A.L _›));obtain⟨d0,d1,d2,d4,d5,d6⟩:=HB.out _ HQ.out.1 HQ.out.2;go_wp2_with fail;refine wp_region_still_tail 5 (by kernel_rfl) (by kernel_rfl) ?_;simp only[zta,ztb,ztc,ztd]
     repeat still_step
     refine wpStill_nil ?_;change wpList _ _ _ _ _ w1.drew;have HGD:=zH (HQ.out.2.trans (Grow.drew A.L w1));have HTA:=HTT.out A w1.drew HQ.out.1.drew HMP.out _ fv cv HQ.out.1.drew (Grow.refl _ _) (HTH.out A _ _ HGD.out rfl);have HF:=zH HTA;clear HTA;generalize w1.drew=wd at*;go_wp2_with fail;refine HF.out.mono ?_;rintro e w4 ⟨A',v,rfl,q1,q2,q3,q4⟩;go_wp2_with fail;go_ret;exact⟨A',v,rfl,q1,HGD.out.trans q2,q3,q4⟩
end Go.Proofs.YtiimlopcifljeaaGreatDoor.Em
