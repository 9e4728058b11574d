import Derived.Test.YtiimlopcifljeaaGreatDoorQk9
import Derived.Test.YtiimlopcifljeaaGreatDoorQk7
namespace Go.Proofs.YtiimlopcifljeaaGreatDoor.Em
open Go.ChangeShapes Go.WideShapes Go.ChangeAt Go.RowKit En
set_option linter.unusedVariables false
set_option linter.unusedSimpArgs false
set_option maxRecDepth 100000
set_option maxHeartbeats 1600000
variable {A:Book} {σ:St} {w:World}
def ThnTo (σ:St) (s:Nat) (hu:Hunt) (link:Nat):Prop:=∀ A w,Rep A σ w→A.mp=0→ThnAt A w σ s hu link
theorem k_older (hR:Rep A σ w) (s:Nat) (hmp:A.mp=0) (hu:Hunt) (link b0 b1:Nat) (B0:HuntBox (kp A σ s) A.L w b0 hu) (B1:Box A.L w b1 (zu (link:Int))) (hv:VL σ link) (hcnt:σ.count<4000000000000000000) (HT:σ.word (wslot link 2)=0→ThnTo σ.tick s hu 0):
 Calls Tryz.prog 334 #[.pointer (some ⟨b0,0,none⟩),.pointer (some ⟨b1,0,none⟩)] w (Ran A w s (σ.run s (.older hu link))):=by
 have hsl:=hR.sl;obtain⟨bh,X0,hh0⟩:=B0;obtain⟨vt,TT,fh,hth⟩:=id hh0;have c0:=X0.cell;have c1:=B1.cell;have h0:w.cell? ⟨bh,0,none⟩=some (.pointer (some ⟨A.be,0,none⟩)):=fh.cell 0 rfl;have e2:=hR.z2;have HK:Hid (∀ w',Kp A w w'→w'.cell? ⟨b0,0,none⟩=some (.pointer (some ⟨bh,0,none⟩))∧w'.cell? ⟨b1,0,none⟩=some (zu (link:Int))∧w'.cell? ⟨bh,0,none⟩=some (.pointer (some ⟨A.be,0,none⟩))∧w'.cell? ⟨A.be,2,none⟩=some (.pointer (some ⟨A.ba,0,none⟩))):=by
  obtain⟨_,x0⟩:=X0;obtain⟨_,x1⟩:=B1;exact fun w' k=>⟨k.fix _ _ _ x0.1 c0,k.fix _ _ _ x1.1 c1,k.fix _ _ _ fh.1 h0,k.ea⟩
 have HS:=zH (slot_at link 2 2 rfl hv.lo (by have:=hv.hi;omega) hv.u (by omega));have HL:=zH (load_any hR.drew (wslot link 2) (wslot_lt hR hv.lo hv.hi (by omega)) hcnt);have HG:=zG A.L w;have HB:Hid (∀ w1,Rep A σ.tick w1→Grow A.L w A.L w1→Calls Tryz.prog 275 #[.pointer (some ⟨bh,0,none⟩),zu (σ.word (wslot link 2):Int)] w1 (Tells A w1 s (σ.tick.visit s hu (σ.word (wslot link 2))))):=
  fun w1 r g=>visit_any r s bh hu (hh0.grow g) _ fun hz=>HT hz A w1 r hmp
 have hrun:σ.run s (.older hu link)=((σ.tick.visit s hu (σ.word (wslot link 2))).1,some (σ.tick.visit s hu (σ.word (wslot link 2))).2):=rfl;rw[hrun];clear hR hh0 fh hth hv hcnt HT hrun X0 B1 hsl hmp;generalize σ.tick.visit s hu (σ.word (wslot link 2))=res at*;generalize σ.word (wslot link 2)=nx at*;go_enter Tryz.func334,Tryz.ntmps334;go_wp2_with fail
 go_region_held3 (fun w'=>w'.cell? ⟨b0,0,none⟩=some (.pointer (some ⟨bh,0,none⟩))∧w'.cell? ⟨b1,0,none⟩=some (zu (link:Int))∧w'.cell? ⟨bh,0,none⟩=some (.pointer (some ⟨A.be,0,none⟩))∧w'.cell? ⟨A.be,2,none⟩=some (.pointer (some ⟨A.ba,0,none⟩)))
  (first|exact⟨c0,c1,h0,e2⟩|assumption|exact HK.out _ (Kp.of (by assumption) (by assumption) (by assumption)))
  (first|(go_at_call 79;refine (HS.out _).mono ?_;rintro e w' ⟨rfl,rfl⟩)|(go_at_call 66;refine HL.out.mono ?_;rintro e w1 ⟨rfl,q1,q2⟩;have q4:=HG.out.trans q2;have q3:=Stay.refl A s;clear q2)|(go_at_call 275;refine (HB.out _ (by assumption) (by assumption)).mono ?_;rintro e w2 ⟨A',v,rfl,p1,p2,p3,p4⟩;have p5:=(‹Grow A.L w A.L _›).trans p2))
 go_wp2_with fail;go_ret;exact⟨A',_,rfl,p1,p5,p3,p4⟩
theorem k_maker (hR:Rep A σ w) (s:Nat) (hu:Hunt) (link id b0 b1 b2:Nat) (B0:HuntBox (kp A σ s) A.L w b0 hu) (B1:Box A.L w b1 (zi (id:Int))) (B2:Box A.L w b2 (zu (link:Int))) (hid:id≤65535) (hpl:σ.place id<σ.words.length) (hw:σ.word (σ.place id)<18446744073709551616) (hcnt:σ.count<4000000000000000000):
 Calls Tryz.prog 322 #[.pointer (some ⟨b0,0,none⟩),.pointer (some ⟨b1,0,none⟩),.pointer (some ⟨b2,0,none⟩)] w (Ran A w s (σ.run s (.maker hu link id))):=by
 obtain⟨bh,X0,hh0⟩:=B0;obtain⟨vt,TT,fh,hth⟩:=_root_.id hh0;have c0:=X0.cell;have c1:=B1.cell;have h0:w.cell? ⟨bh,0,none⟩=some (.pointer (some ⟨A.be,0,none⟩)):=fh.cell 0 rfl;have e2:=hR.z2;have HK:Hid (∀ w',Kp A w w'→w'.cell? ⟨b0,0,none⟩=some (.pointer (some ⟨bh,0,none⟩))∧w'.cell? ⟨b1,0,none⟩=some (zi (id:Int))∧w'.cell? ⟨bh,0,none⟩=some (.pointer (some ⟨A.be,0,none⟩))∧w'.cell? ⟨A.be,2,none⟩=some (.pointer (some ⟨A.ba,0,none⟩))):=by
  obtain⟨_,x0⟩:=X0;obtain⟨_,x1⟩:=B1;exact fun w' k=>⟨k.fix _ _ _ x0.1 c0,k.fix _ _ _ x1.1 c1,k.fix _ _ _ fh.1 h0,k.ea⟩
 have HP:=zH (place_still hR.drew id hid);have HL:=zH (load_any hR.drew (σ.place id) hpl hcnt);have HU:=zH (fun w'=>unpack_any (σ.word (σ.place id)) hw w');have HG:=zG A.L w;have HB:Hid (∀ w1,Rep A σ.tick w1→Grow A.L w A.L w1→w1.cell? ⟨b0,0,none⟩=some (.pointer (some ⟨bh,0,none⟩))∧w1.cell? ⟨b1,0,none⟩=some (zi (id:Int))∧w1.cell? ⟨b2,0,none⟩=some (zu (link:Int))∧w1.cell? ⟨bh,3,none⟩=some (zu (hu.at_:Int))∧HuntAt (kp A σ.tick s) A.L w1 bh hu):=by
  intro w1 q g;have k:HuntAt (kp A σ.tick s) A.L w1 bh hu:=hh0.grow g;exact⟨(X0.grow g).cell,(B1.grow g).cell,(B2.grow g).cell,(fh.grow g).cell 3 rfl,k⟩
 have hrun:σ.run s (.maker hu link id)=(σ.tick,some (if endOf (σ.word (σ.place id))=0∨hu.at_<endOf (σ.word (σ.place id))∨stateOf (σ.word (σ.place id))=4 then .older hu link else if stateOf (σ.word (σ.place id))=2 then .ended hu link id else .ended hu link 0)):=by
  simp only[St.run];split<;>(try split)<;>rfl
 rw[hrun];have HOld:Hid (∀ w1,Rep A σ.tick w1→Grow A.L w A.L w1→Calls Tryz.prog 321 #[.pointer (some ⟨bh,0,none⟩),zu (link:Int)] w1 (Tells A w1 s (σ.tick,.older hu link))):=fun w1 q g=>older_any q s bh hu (show HuntAt (kp A σ.tick s) A.L w1 bh hu from hh0.grow g) link
 have HEnd:Hid (∀ w1,Rep A σ.tick w1→Grow A.L w A.L w1→Calls Tryz.prog 320 #[.pointer (some ⟨bh,0,none⟩),zu (link:Int),zi (id:Int)] w1 (Tells A w1 s (σ.tick,.ended hu link id))):=fun w1 q g=>ended_any q s bh hu (show HuntAt (kp A σ.tick s) A.L w1 bh hu from hh0.grow g) link id
 have HEnd0:Hid (∀ w1,Rep A σ.tick w1→Grow A.L w A.L w1→Calls Tryz.prog 320 #[.pointer (some ⟨bh,0,none⟩),zu (link:Int),zi 0] w1 (Tells A w1 s (σ.tick,.ended hu link 0))):=fun w1 q g=>ended_any q s bh hu (show HuntAt (kp A σ.tick s) A.L w1 bh hu from hh0.grow g) link 0
 clear hR hid hpl hw hcnt X0 B1 B2 fh hth hh0 hrun;generalize σ.word (σ.place id)=x at*;generalize hst:stateOf x=st at*;generalize hen:endOf x=en at*;generalize hu.at_=ha at*;clear hst hen
 by_cases h0e:en=0
 · rw[if_pos (Or.inl h0e)]
   obtain⟨fa1,fa2,fa3,fa4,fa5⟩:=zeT (x:=en) (c:=0) (ci:=0) (by omega);clear h0e;go_enter Tryz.func322,Tryz.ntmps322;go_wp2_with fail
   go_region_held3 (fun w'=>w'.cell? ⟨b0,0,none⟩=some (.pointer (some ⟨bh,0,none⟩))∧w'.cell? ⟨b1,0,none⟩=some (zi (id:Int))∧w'.cell? ⟨bh,0,none⟩=some (.pointer (some ⟨A.be,0,none⟩))∧w'.cell? ⟨A.be,2,none⟩=some (.pointer (some ⟨A.ba,0,none⟩)))
    (first|exact⟨c0,c1,h0,e2⟩|assumption|exact HK.out _ (Kp.of (by assumption) (by assumption) (by assumption)))
    (first|(go_at_call 72;refine HP.out.mono ?_;rintro e w' ⟨rfl,rfl⟩)|(go_at_call 66;refine HL.out.mono ?_;rintro e w1 ⟨rfl,q1,q2⟩;have q4:=HG.out.trans q2;have q3:=Stay.refl A s;clear q2)|(go_at_call 119;refine (HU.out _).mono ?_;rintro e w' ⟨rfl,rfl⟩))
   obtain⟨d0,d1,d2,d3,hk⟩:=HB.out _ (by assumption) (by assumption);have HQ:=zH (zA (‹Rep A σ.tick _›) (zA (‹Grow A.L w A.L _›) hk));clear hk;go_wp2_with (go_at_call 321;refine (HOld.out _ HQ.out.1 HQ.out.2.1).mono ?_;rintro e w2 ⟨A2,v,rfl,p1,p2,p3,p4⟩);go_ret;exact⟨A2,v,rfl,p1,HQ.out.2.1.trans p2,p3,p4⟩
 · have fa1:((en:Int)==0)=false:=by simp<;>omega
   have fa2:((en:Int)=0)=False:=by simp<;>omega
   have fa3:(en=0)=False:=by simp<;>omega
   have fa4:(en==0)=false:=by simp<;>omega
   have fa5:((en:Int) !=0)=true:=by simp<;>omega
   by_cases hlt:ha<en
   · rw[if_pos (Or.inr (Or.inl hlt))]
     obtain⟨fb1,fb2,fb3,fb4⟩:=zlt (x:=ha) (c:=en) (xi:=(ha:Int)) (ci:=(en:Int)) (by omega);clear h0e hlt;go_enter Tryz.func322,Tryz.ntmps322;go_wp2_with fail
     go_region_held3 (fun w'=>w'.cell? ⟨b0,0,none⟩=some (.pointer (some ⟨bh,0,none⟩))∧w'.cell? ⟨b1,0,none⟩=some (zi (id:Int))∧w'.cell? ⟨bh,0,none⟩=some (.pointer (some ⟨A.be,0,none⟩))∧w'.cell? ⟨A.be,2,none⟩=some (.pointer (some ⟨A.ba,0,none⟩)))
      (first|exact⟨c0,c1,h0,e2⟩|assumption|exact HK.out _ (Kp.of (by assumption) (by assumption) (by assumption)))
      (first|(go_at_call 72;refine HP.out.mono ?_;rintro e w' ⟨rfl,rfl⟩)|(go_at_call 66;refine HL.out.mono ?_;rintro e w1 ⟨rfl,q1,q2⟩;have q4:=HG.out.trans q2;have q3:=Stay.refl A s;clear q2)|(go_at_call 119;refine (HU.out _).mono ?_;rintro e w' ⟨rfl,rfl⟩))
     obtain⟨d0,d1,d2,d3,hk⟩:=HB.out _ (by assumption) (by assumption);have HQ:=zH (zA (‹Rep A σ.tick _›) (zA (‹Grow A.L w A.L _›) hk));clear hk;go_wp2_with (go_at_call 321;refine (HOld.out _ HQ.out.1 HQ.out.2.1).mono ?_;rintro e w2 ⟨A2,v,rfl,p1,p2,p3,p4⟩);go_ret;exact⟨A2,v,rfl,p1,HQ.out.2.1.trans p2,p3,p4⟩
   · have fb1:decide ((ha:Int)<(en:Int))=false:=by simp<;>omega
     have fb2:((ha:Int)<(en:Int))=False:=by simp<;>omega
     have fb3:(ha<en)=False:=by simp<;>omega
     have fb4:decide (ha<en)=false:=by simp<;>omega
     by_cases h4:st=4
     · rw[if_pos (Or.inr (Or.inr h4))]
       obtain⟨fc1,fc2,fc3,fc4,fc5⟩:=zeT (x:=st) (c:=4) (ci:=4) (by omega);clear h0e hlt h4;go_enter Tryz.func322,Tryz.ntmps322;go_wp2_with fail
       go_region_held3 (fun w'=>w'.cell? ⟨b0,0,none⟩=some (.pointer (some ⟨bh,0,none⟩))∧w'.cell? ⟨b1,0,none⟩=some (zi (id:Int))∧w'.cell? ⟨bh,0,none⟩=some (.pointer (some ⟨A.be,0,none⟩))∧w'.cell? ⟨A.be,2,none⟩=some (.pointer (some ⟨A.ba,0,none⟩)))
        (first|exact⟨c0,c1,h0,e2⟩|assumption|exact HK.out _ (Kp.of (by assumption) (by assumption) (by assumption)))
        (first|(go_at_call 72;refine HP.out.mono ?_;rintro e w' ⟨rfl,rfl⟩)|(go_at_call 66;refine HL.out.mono ?_;rintro e w1 ⟨rfl,q1,q2⟩;have q4:=HG.out.trans q2;have q3:=Stay.refl A s;clear q2)|(go_at_call 119;refine (HU.out _).mono ?_;rintro e w' ⟨rfl,rfl⟩))
       obtain⟨d0,d1,d2,d3,hk⟩:=HB.out _ (by assumption) (by assumption);have HQ:=zH (zA (‹Rep A σ.tick _›) (zA (‹Grow A.L w A.L _›) hk));clear hk;go_wp2_with (go_at_call 321;refine (HOld.out _ HQ.out.1 HQ.out.2.1).mono ?_;rintro e w2 ⟨A2,v,rfl,p1,p2,p3,p4⟩);go_ret;exact⟨A2,v,rfl,p1,HQ.out.2.1.trans p2,p3,p4⟩
     · rw[if_neg (by omega)]
       obtain⟨fc1,fc2,fc3,fc4,fc5⟩:=zeF (x:=st) (c:=4) (ci:=4) (by omega)
       by_cases h2:st=2
       · rw[if_pos h2]
         obtain⟨fd1,fd2,fd3,fd4,fd5⟩:=zeT (x:=st) (c:=2) (ci:=2) (by omega);clear h0e hlt h4 h2;go_enter Tryz.func322,Tryz.ntmps322;go_wp2_with fail
         go_region_held3 (fun w'=>w'.cell? ⟨b0,0,none⟩=some (.pointer (some ⟨bh,0,none⟩))∧w'.cell? ⟨b1,0,none⟩=some (zi (id:Int))∧w'.cell? ⟨bh,0,none⟩=some (.pointer (some ⟨A.be,0,none⟩))∧w'.cell? ⟨A.be,2,none⟩=some (.pointer (some ⟨A.ba,0,none⟩)))
          (first|exact⟨c0,c1,h0,e2⟩|assumption|exact HK.out _ (Kp.of (by assumption) (by assumption) (by assumption)))
          (first|(go_at_call 72;refine HP.out.mono ?_;rintro e w' ⟨rfl,rfl⟩)|(go_at_call 66;refine HL.out.mono ?_;rintro e w1 ⟨rfl,q1,q2⟩;have q4:=HG.out.trans q2;have q3:=Stay.refl A s;clear q2)|(go_at_call 119;refine (HU.out _).mono ?_;rintro e w' ⟨rfl,rfl⟩))
         obtain⟨d0,d1,d2,d3,hk⟩:=HB.out _ (by assumption) (by assumption);have HQ:=zH (zA (‹Rep A σ.tick _›) (zA (‹Grow A.L w A.L _›) hk));clear hk;go_wp2_with (go_at_call 320;refine (HEnd.out _ HQ.out.1 HQ.out.2.1).mono ?_;rintro e w2 ⟨A2,v,rfl,p1,p2,p3,p4⟩);go_ret;exact⟨A2,v,rfl,p1,HQ.out.2.1.trans p2,p3,p4⟩
       · rw[if_neg h2]
         obtain⟨fd1,fd2,fd3,fd4,fd5⟩:=zeF (x:=st) (c:=2) (ci:=2) (by omega);clear h0e hlt h4 h2;go_enter Tryz.func322,Tryz.ntmps322;go_wp2_with fail
         go_region_held3 (fun w'=>w'.cell? ⟨b0,0,none⟩=some (.pointer (some ⟨bh,0,none⟩))∧w'.cell? ⟨b1,0,none⟩=some (zi (id:Int))∧w'.cell? ⟨bh,0,none⟩=some (.pointer (some ⟨A.be,0,none⟩))∧w'.cell? ⟨A.be,2,none⟩=some (.pointer (some ⟨A.ba,0,none⟩)))
          (first|exact⟨c0,c1,h0,e2⟩|assumption|exact HK.out _ (Kp.of (by assumption) (by assumption) (by assumption)))
          (first|(go_at_call 72;refine HP.out.mono ?_;rintro e w' ⟨rfl,rfl⟩)|(go_at_call 66;refine HL.out.mono ?_;rintro e w1 ⟨rfl,q1,q2⟩;have q4:=HG.out.trans q2;have q3:=Stay.refl A s;clear q2)|(go_at_call 119;refine (HU.out _).mono ?_;rintro e w' ⟨rfl,rfl⟩))
         obtain⟨d0,d1,d2,d3,hk⟩:=HB.out _ (by assumption) (by assumption);have HQ:=zH (zA (‹Rep A σ.tick _›) (zA (‹Grow A.L w A.L _›) hk));clear hk;go_wp2_with (go_at_call 320;refine (HEnd0.out _ HQ.out.1 HQ.out.2.1).mono ?_;rintro e w2 ⟨A2,v,rfl,p1,p2,p3,p4⟩);go_ret;exact⟨A2,v,rfl,p1,HQ.out.2.1.trans p2,p3,p4⟩
end Go.Proofs.YtiimlopcifljeaaGreatDoor.Em
