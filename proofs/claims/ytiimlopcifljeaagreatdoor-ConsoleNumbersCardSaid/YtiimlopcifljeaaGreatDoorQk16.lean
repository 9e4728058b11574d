import Derived.Test.YtiimlopcifljeaaGreatDoorQk12
import Derived.Test.YtiimlopcifljeaaGreatDoorQk15
import Derived.Test.YtiimlopcifljeaaGreatDoorQk8
import Derived.Test.YtiimlopcifljeaaGreatDoorQk11
namespace Go.Proofs.YtiimlopcifljeaaGreatDoor.Em
open Go.ChangeShapes Go.WideShapes Go.ChangeAt Go.RowKit En
set_option linter.unusedVariables false
set_option linter.unusedSimpArgs false
set_option maxRecDepth 100000
set_option maxHeartbeats 1600000
variable {A:Book} {σ:St} {w:World}
theorem k_ownTxn (hR:Rep A σ w) (s:Nat) (link x1 id:Nat) (hid:id≤65535) (hpl:σ.place id<σ.words.length) (hw:σ.word (σ.place id)<18446744073709551616) (hcnt:σ.count<4000000000000000000) (b0 b1 b2 b3 b4 b5:Nat)
 (B0:Box A.L w b0 (.pointer (some ⟨A.be,0,none⟩))) (B1:Box A.L w b1 (zi (id:Int))) (B2:Box A.L w b2 (.pointer (some ⟨A.bt s,0,none⟩))) (B3:Box A.L w b3 (.pointer (some ⟨A.bc s,0,none⟩))) (B4:Box A.L w b4 (zu (link:Int))) (B5:Box A.L w b5 (zu (x1:Int))):
 Calls Tryz.prog 255 #[.pointer (some ⟨b0,0,none⟩),.pointer (some ⟨b1,0,none⟩),.pointer (some ⟨b2,0,none⟩),.pointer (some ⟨b3,0,none⟩),.pointer (some ⟨b4,0,none⟩),.pointer (some ⟨b5,0,none⟩)] w (Ran A w s (σ.run s (.ownTxn link x1 id))):=by
 have c0:=B0.cell;have c1:=B1.cell;have e2:=hR.z2;have HK:Hid (∀ w',Kp A w w'→w'.cell? ⟨b0,0,none⟩=some (.pointer (some ⟨A.be,0,none⟩))∧w'.cell? ⟨b1,0,none⟩=some (zi (id:Int))∧w'.cell? ⟨A.be,2,none⟩=some (.pointer (some ⟨A.ba,0,none⟩))):=by
  obtain⟨_,x0⟩:=B0;obtain⟨_,x1⟩:=B1;exact fun w' k=>⟨k.fix _ _ _ x0.1 c0,k.fix _ _ _ x1.1 c1,k.ea⟩
 have HP:=zH (place_still hR.drew id hid);have HL:=zH (load_any hR.drew (σ.place id) hpl hcnt);have HU:=zH (fun w'=>unpack_any (σ.word (σ.place id)) hw w');have HG:=zG A.L w;have HB:Hid (∀ w1,Rep A σ.tick w1→Grow A.L w A.L w1→w1.cell? ⟨b0,0,none⟩=some (.pointer (some ⟨A.be,0,none⟩))∧w1.cell? ⟨b2,0,none⟩=some (.pointer (some ⟨A.bt s,0,none⟩))∧w1.cell? ⟨b3,0,none⟩=some (.pointer (some ⟨A.bc s,0,none⟩))∧w1.cell? ⟨b4,0,none⟩=some (zu (link:Int))∧w1.cell? ⟨b5,0,none⟩=some (zu (x1:Int))):=fun w1 q g=>⟨(B0.grow g).cell,(B2.grow g).cell,(B3.grow g).cell,(B4.grow g).cell,(B5.grow g).cell⟩
 have hrun:σ.run s (.ownTxn link x1 id)=(σ.tick,some (if stateOf (σ.word (σ.place id))≠4 then .abort 14 2 else .claim link x1)):=by
  simp only[St.run];split<;>rfl
 rw[hrun];have HAb:Hid (∀ w1,Rep A σ.tick w1→Calls Tryz.prog 170 #[.pointer (some ⟨A.be,0,none⟩),.pointer (some ⟨A.bt s,0,none⟩),.pointer (some ⟨A.bc s,0,none⟩),zi 14,zi 2] w1 (Tells A w1 s (σ.tick,.abort 14 2))):=fun w1 q=>abort_any q s 14 2
 have HCl:Hid (∀ w1,Rep A σ.tick w1→Calls Tryz.prog 254 #[.pointer (some ⟨A.be,0,none⟩),.pointer (some ⟨A.bt s,0,none⟩),.pointer (some ⟨A.bc s,0,none⟩),zu (link:Int),zu (x1:Int)] w1 (Tells A w1 s (σ.tick,.claim link x1))):=fun w1 q=>claim_any q s link x1
 clear hR hid hpl hw hcnt B0 B1 B2 B3 B4 B5 hrun;generalize σ.word (σ.place id)=x at*;generalize hst:stateOf x=st at*;generalize hen:endOf x=en at*;clear hst hen
 by_cases h4:st=4
 · rw[if_neg (fun h=>h h4)]
   obtain⟨fc1,fc2,fc3,fc4,fc5⟩:=zeT (x:=st) (c:=4) (ci:=4) (by omega);clear h4;go_enter Tryz.func255,Tryz.ntmps255;go_wp2_with fail
   go_region_held3 (fun w'=>w'.cell? ⟨b0,0,none⟩=some (.pointer (some ⟨A.be,0,none⟩))∧w'.cell? ⟨b1,0,none⟩=some (zi (id:Int))∧w'.cell? ⟨A.be,2,none⟩=some (.pointer (some ⟨A.ba,0,none⟩)))
    (first|exact⟨c0,c1,e2⟩|assumption|exact HK.out _ (Kp.of (by assumption) (by assumption) (by assumption)))
    (first|(go_at_call 72;refine HP.out.mono ?_;rintro e w' ⟨rfl,rfl⟩)|(go_at_call 66;refine HL.out.mono ?_;rintro e w1 ⟨rfl,q1,q2⟩;have q4:=HG.out.trans q2;have q3:=Stay.refl A s;clear q2)|(go_at_call 119;refine (HU.out _).mono ?_;rintro e w' ⟨rfl,rfl⟩))
   have HQ:=zH (zA (‹Rep A σ.tick _›) (‹Grow A.L w A.L _›));obtain⟨d0,d2,d3,d4,d5⟩:=HB.out _ HQ.out.1 HQ.out.2;go_wp2_with (go_at_call 254;refine (HCl.out _ HQ.out.1).mono ?_;rintro e w2 ⟨A2,v,rfl,p1,p2,p3,p4⟩);go_ret;exact⟨A2,v,rfl,p1,HQ.out.2.trans p2,p3,p4⟩
 · rw[if_pos h4]
   obtain⟨fc1,fc2,fc3,fc4,fc5⟩:=zeF (x:=st) (c:=4) (ci:=4) (by omega);clear h4;go_enter Tryz.func255,Tryz.ntmps255;go_wp2_with fail
   go_region_held3 (fun w'=>w'.cell? ⟨b0,0,none⟩=some (.pointer (some ⟨A.be,0,none⟩))∧w'.cell? ⟨b1,0,none⟩=some (zi (id:Int))∧w'.cell? ⟨A.be,2,none⟩=some (.pointer (some ⟨A.ba,0,none⟩)))
    (first|exact⟨c0,c1,e2⟩|assumption|exact HK.out _ (Kp.of (by assumption) (by assumption) (by assumption)))
    (first|(go_at_call 72;refine HP.out.mono ?_;rintro e w' ⟨rfl,rfl⟩)|(go_at_call 66;refine HL.out.mono ?_;rintro e w1 ⟨rfl,q1,q2⟩;have q4:=HG.out.trans q2;have q3:=Stay.refl A s;clear q2)|(go_at_call 119;refine (HU.out _).mono ?_;rintro e w' ⟨rfl,rfl⟩))
   have HQ:=zH (zA (‹Rep A σ.tick _›) (‹Grow A.L w A.L _›));obtain⟨d0,d2,d3,d4,d5⟩:=HB.out _ HQ.out.1 HQ.out.2;go_wp2_with (go_at_call 170;refine (HAb.out _ HQ.out.1).mono ?_;rintro e w2 ⟨A2,v,rfl,p1,p2,p3,p4⟩);go_ret;exact⟨A2,v,rfl,p1,HQ.out.2.trans p2,p3,p4⟩
theorem k_wait (hR:Rep A σ w) (s:Nat) (t:Txn) (ht:σ.txns.getD s none=some t) (c:Cal) (hc:σ.calls.getD s none=some c) (i bd:Nat) (hi:t.bonds[i]? =some bd) (hil:t.bonds.length<1000000) (hid:bd≤65535) (hpl:σ.place bd<σ.words.length) (hw:σ.word (σ.place bd)<18446744073709551616) (hcnt:σ.count<4000000000000000000) (b0 b1 b2 b3 b4:Nat)
 (B0:Box A.L w b0 (.pointer (some ⟨A.be,0,none⟩))) (B1:Box A.L w b1 (.pointer (some ⟨A.bt s,0,none⟩))) (B2:Box A.L w b2 (zi (i:Int))) (B3:Box A.L w b3 (.pointer (some ⟨A.bc s,0,none⟩))) (B4:Box A.L w b4 (.func (.func 277) #[] #[.pointer (some ⟨b0,0,none⟩),.pointer (some ⟨b1,0,none⟩),.pointer (some ⟨b2,0,none⟩),.pointer (some ⟨b3,0,none⟩),.pointer (some ⟨b4,0,none⟩)])):
 Calls Tryz.prog 277 #[.pointer (some ⟨b0,0,none⟩),.pointer (some ⟨b1,0,none⟩),.pointer (some ⟨b2,0,none⟩),.pointer (some ⟨b3,0,none⟩),.pointer (some ⟨b4,0,none⟩)] w (Ran A w s (σ.run s (.wait i))):=by
 have hown0:=hR.mem.all (.bonds s);rw[mem_bonds ht] at hown0;have hj:(t.bonds.map i64)[i]? =some (zi (bd:Int)):=by rw[List.getElem?_map,hi];rfl
 obtain⟨g0,capv,hv,_⟩:=own_at hown0.1 hj;have HKK:Hid (∀ σ' w',Rep A σ' w'→σ'.txns=σ.txns→Grow A.L w A.L w'→w'.cell? ⟨b0,0,none⟩=some (.pointer (some ⟨A.be,0,none⟩))∧w'.cell? ⟨b1,0,none⟩=some (.pointer (some ⟨A.bt s,0,none⟩))∧w'.cell? ⟨b2,0,none⟩=some (zi (i:Int))∧w'.cell? ⟨A.be,2,none⟩=some (.pointer (some ⟨A.ba,0,none⟩))∧w'.cell? ⟨A.bt s,9,none⟩=some (.slice (some ⟨g0,0,none⟩) t.bonds.length capv)∧w'.cell? ⟨g0,i,none⟩=some (zi (bd:Int))):=by
  intro σ' w' r he g;have ht':σ'.txns.getD s none=some t:=by rw[he];exact ht
  have h9:=r.txn ht' 9 (v:=A.vbonds s) rfl;have hown:=r.mem.all (.bonds s);rw[mem_bonds ht'] at hown;obtain⟨g1,cap1,hv1,hc1⟩:=own_at hown.1 hj;obtain rfl:g0=g1:=by rw[hv] at hv1;simp at hv1;exact hv1.1
  rw[hv] at h9;exact⟨(B0.grow g).cell,(B1.grow g).cell,(B2.grow g).cell,r.eng 2 rfl,h9,hc1⟩
 have HKT:Hid (∀ w',Rep A σ.tick w'→Grow A.L w A.L w'→w'.cell? ⟨b0,0,none⟩=some (.pointer (some ⟨A.be,0,none⟩))∧w'.cell? ⟨b1,0,none⟩=some (.pointer (some ⟨A.bt s,0,none⟩))∧w'.cell? ⟨b2,0,none⟩=some (zi (i:Int))∧w'.cell? ⟨A.be,2,none⟩=some (.pointer (some ⟨A.ba,0,none⟩))∧w'.cell? ⟨A.bt s,9,none⟩=some (.slice (some ⟨g0,0,none⟩) t.bonds.length capv)∧w'.cell? ⟨g0,i,none⟩=some (zi (bd:Int))):=fun w' r g=>HKK.out σ.tick w' r rfl g
 obtain⟨c0,c1,c2,e2,h9,hg⟩:=HKK.out σ w hR rfl (Grow.refl _ _);have b1':(i:Int)<(t.bonds.length:Int):=by have:=(List.getElem?_eq_some_iff.1 hi).1;omega
 have b0':(0:Int)≤(i:Int):=by omega
 have HP:=zH (place_still hR.drew bd hid);have HL:=zH (load_any hR.drew (σ.place bd) hpl hcnt);have HU:=zH (fun w'=>unpack_any (σ.word (σ.place bd)) hw w');have HG:=zG A.L w;have HB:Hid (∀ w1,Rep A σ.tick w1→Grow A.L w A.L w1→w1.cell? ⟨b0,0,none⟩=some (.pointer (some ⟨A.be,0,none⟩))∧w1.cell? ⟨b1,0,none⟩=some (.pointer (some ⟨A.bt s,0,none⟩))∧w1.cell? ⟨b2,0,none⟩=some (zi (i:Int))∧w1.cell? ⟨b3,0,none⟩=some (.pointer (some ⟨A.bc s,0,none⟩))∧w1.cell? ⟨b4,0,none⟩=some (.func (.func 277) #[] #[.pointer (some ⟨b0,0,none⟩),.pointer (some ⟨b1,0,none⟩),.pointer (some ⟨b2,0,none⟩),.pointer (some ⟨b3,0,none⟩),.pointer (some ⟨b4,0,none⟩)])∧w1.cell? ⟨A.bc s,10,none⟩=some (.bool c.waits)∧w1.frozen? ⟨A.bc s,10,none⟩=false):=
  fun w1 q g=>⟨(B0.grow g).cell,(B1.grow g).cell,(B2.grow g).cell,(B3.grow g).cell,(B4.grow g).cell,q.call (s:=s) (c:=c) hc 10 rfl,q.callF (s:=s) (c:=c) hc 10⟩
 have hgd:t.bonds.getD i 0=bd:=by rw[List.getD_eq_getElem?_getD,hi];rfl
 have hrun:σ.run s (.wait i)=if stateOf (σ.word (σ.place bd))=3 then (σ.tick,some (waitK t (i+1))) else if stateOf (σ.word (σ.place bd))=4 then (σ.tick,some (.abort 14 4)) else (σ.tick.setC s {c with waits:=true},some (.wait i)):=by
  have e1:σ.t s=t:=txn_get ht;have e2:σ.tick.t s=t:=txn_get ht;have e3:σ.tick.c s=c:=call_get hc;simp only[St.run,e1,e2,e3,hgd]
 rw[hrun];have n1:IntKind.i64.wrap ((i:Int)+1)=(i:Int)+1:=by have:=(List.getElem?_eq_some_iff.1 hi).1;rw[IntKind.wrap_i64];omega
 have HAb:Hid (∀ w1,Rep A σ.tick w1→Calls Tryz.prog 170 #[.pointer (some ⟨A.be,0,none⟩),.pointer (some ⟨A.bt s,0,none⟩),.pointer (some ⟨A.bc s,0,none⟩),zi 14,zi 4] w1 (Tells A w1 s (σ.tick,.abort 14 4))):=fun w1 q=>abort_any q s 14 4
 have HWa:Hid (∀ w1,Rep A σ.tick w1→Calls Tryz.prog 243 #[.pointer (some ⟨A.be,0,none⟩),.pointer (some ⟨A.bt s,0,none⟩),.pointer (some ⟨A.bc s,0,none⟩),zi ((i:Int)+1)] w1 (Tells A w1 s (σ.tick,waitK t (i+1)))):=fun w1 q=>wait_any q s t ht (i+1)
 have HST:Hid (∀ w1,Rep A σ.tick w1→Grow A.L w A.L w1→∀ ws,w1.setCell ⟨A.bc s,10,none⟩ (.bool true)=ws→Rep A (σ.tick.setC s {c with waits:=true}) ws∧Grow A.L w A.L ws∧ws.cell? ⟨b4,0,none⟩=some (.func (.func 277) #[] #[.pointer (some ⟨b0,0,none⟩),.pointer (some ⟨b1,0,none⟩),.pointer (some ⟨b2,0,none⟩),.pointer (some ⟨b3,0,none⟩),.pointer (some ⟨b4,0,none⟩)])):=by
  rintro w1 q g ws rfl;obtain⟨r2,g2⟩:=q.setCall (s:=s) (c:=c) hc {c with waits:=true} 10 (.bool true) (by simp[callCs]) rfl;exact⟨r2,g.trans g2,(B4.grow (g.trans g2)).cell⟩
 have hkp:kp A (σ.tick.setC s {c with waits:=true}) s=kp A σ s:=by
  have e:(σ.tick.setC s {c with waits:=true}).c s={c with waits:=true}:=call_get (by rw[getC_set (σ:=σ.tick) (lt_of_call hc),if_pos rfl]);unfold kp;rw[e,call_get hc]
 have HKP:=zH hkp;clear hkp;have HX:=zH (zA B0 (zA B1 (zA B2 (zA B3 B4))));clear hR ht hc hi hil hid hpl hw hcnt B0 B1 B2 B3 B4 hown0 hj hv hgd hrun;generalize σ.word (σ.place bd)=x at*;generalize hst:stateOf x=st at*;generalize hen:endOf x=en at*;clear hst hen;generalize hbl:t.bonds.length=n at*
 by_cases h3:st=3
 · rw[if_pos h3]
   obtain⟨fc1,fc2,fc3,fc4,fc5⟩:=zeT (x:=st) (c:=3) (ci:=3) (by omega);clear h3;go_enter Tryz.func277,Tryz.ntmps277;go_wp2_with fail
   go_region_held3 (fun w'=>w'.cell? ⟨b0,0,none⟩=some (.pointer (some ⟨A.be,0,none⟩))∧w'.cell? ⟨b1,0,none⟩=some (.pointer (some ⟨A.bt s,0,none⟩))∧w'.cell? ⟨b2,0,none⟩=some (zi (i:Int))∧w'.cell? ⟨A.be,2,none⟩=some (.pointer (some ⟨A.ba,0,none⟩))∧w'.cell? ⟨A.bt s,9,none⟩=some (.slice (some ⟨g0,0,none⟩) n capv)∧w'.cell? ⟨g0,i,none⟩=some (zi (bd:Int)))
    (first|exact⟨c0,c1,c2,e2,h9,hg⟩|assumption|exact HKT.out _ (by assumption) (by assumption))
    (first|(go_at_call 72;refine HP.out.mono ?_;rintro e w' ⟨rfl,rfl⟩)|(go_at_call 66;refine HL.out.mono ?_;rintro e w1 ⟨rfl,q1,q2⟩;have q4:=HG.out.trans q2;have q3:=Stay.refl A s;clear q2)|(go_at_call 119;refine (HU.out _).mono ?_;rintro e w' ⟨rfl,rfl⟩))
   have HQ:=zH (zA (‹Rep A σ.tick _›) (‹Grow A.L w A.L _›));obtain⟨d0,d1,d2,d3,d4,d5,d6⟩:=HB.out _ HQ.out.1 HQ.out.2;go_wp2_with (go_at_call 243;refine (HWa.out _ HQ.out.1).mono ?_;rintro e w2 ⟨A2,v,rfl,p1,p2,p3,p4⟩);go_ret;exact⟨A2,v,rfl,p1,HQ.out.2.trans p2,p3,p4⟩
 · rw[if_neg h3]
   obtain⟨fc1,fc2,fc3,fc4,fc5⟩:=zeF (x:=st) (c:=3) (ci:=3) (by omega)
   by_cases h4:st=4
   · rw[if_pos h4]
     obtain⟨fd1,fd2,fd3,fd4,fd5⟩:=zeT (x:=st) (c:=4) (ci:=4) (by omega);clear h3 h4;go_enter Tryz.func277,Tryz.ntmps277;go_wp2_with fail
     go_region_held3 (fun w'=>w'.cell? ⟨b0,0,none⟩=some (.pointer (some ⟨A.be,0,none⟩))∧w'.cell? ⟨b1,0,none⟩=some (.pointer (some ⟨A.bt s,0,none⟩))∧w'.cell? ⟨b2,0,none⟩=some (zi (i:Int))∧w'.cell? ⟨A.be,2,none⟩=some (.pointer (some ⟨A.ba,0,none⟩))∧w'.cell? ⟨A.bt s,9,none⟩=some (.slice (some ⟨g0,0,none⟩) n capv)∧w'.cell? ⟨g0,i,none⟩=some (zi (bd:Int)))
      (first|exact⟨c0,c1,c2,e2,h9,hg⟩|assumption|exact HKT.out _ (by assumption) (by assumption))
      (first|(go_at_call 72;refine HP.out.mono ?_;rintro e w' ⟨rfl,rfl⟩)|(go_at_call 66;refine HL.out.mono ?_;rintro e w1 ⟨rfl,q1,q2⟩;have q4:=HG.out.trans q2;have q3:=Stay.refl A s;clear q2)|(go_at_call 119;refine (HU.out _).mono ?_;rintro e w' ⟨rfl,rfl⟩))
     have HQ:=zH (zA (‹Rep A σ.tick _›) (‹Grow A.L w A.L _›));obtain⟨d0,d1,d2,d3,d4,d5,d6⟩:=HB.out _ HQ.out.1 HQ.out.2;go_wp2_with (go_at_call 170;refine (HAb.out _ HQ.out.1).mono ?_;rintro e w2 ⟨A2,v,rfl,p1,p2,p3,p4⟩);go_ret;exact⟨A2,v,rfl,p1,HQ.out.2.trans p2,p3,p4⟩
   · rw[if_neg h4]
     obtain⟨fd1,fd2,fd3,fd4,fd5⟩:=zeF (x:=st) (c:=4) (ci:=4) (by omega);clear h3 h4;go_enter Tryz.func277,Tryz.ntmps277;go_wp2_with fail
     go_region_held3 (fun w'=>w'.cell? ⟨b0,0,none⟩=some (.pointer (some ⟨A.be,0,none⟩))∧w'.cell? ⟨b1,0,none⟩=some (.pointer (some ⟨A.bt s,0,none⟩))∧w'.cell? ⟨b2,0,none⟩=some (zi (i:Int))∧w'.cell? ⟨A.be,2,none⟩=some (.pointer (some ⟨A.ba,0,none⟩))∧w'.cell? ⟨A.bt s,9,none⟩=some (.slice (some ⟨g0,0,none⟩) n capv)∧w'.cell? ⟨g0,i,none⟩=some (zi (bd:Int)))
      (first|exact⟨c0,c1,c2,e2,h9,hg⟩|assumption|exact HKT.out _ (by assumption) (by assumption))
      (first|(go_at_call 72;refine HP.out.mono ?_;rintro e w' ⟨rfl,rfl⟩)|(go_at_call 66;refine HL.out.mono ?_;rintro e w1 ⟨rfl,q1,q2⟩;have q4:=HG.out.trans q2;have q3:=Stay.refl A s;clear q2)|(go_at_call 119;refine (HU.out _).mono ?_;rintro e w' ⟨rfl,rfl⟩))
     have HQ:=zH (zA (‹Rep A σ.tick _›) (‹Grow A.L w A.L _›));obtain⟨d0,d1,d2,d3,d4,d5,d6⟩:=HB.out _ HQ.out.1 HQ.out.2;go_wp2_with fail;generalize hws:World.setCell _ _ _=ws;obtain⟨r2,g2,d7⟩:=HST.out _ HQ.out.1 HQ.out.2 ws hws;have HZ:=zH (zA r2 g2);clear d0 d1 d2 d3 d4 d5 d6 r2 g2 hws;go_wp2_with fail;go_ret;obtain⟨B0,B1,B2,B3,B4⟩:=HX.out;obtain⟨r2,g2⟩:=HZ.out;refine⟨A,_,rfl,r2,g2,Stay.refl _ _,?_⟩;show KRep (kp A _ s) _ _ _ _;rw[HKP.out];exact⟨_,_,_,_,_,rfl,B0.grow g2,B1.grow g2,B2.grow g2,B3.grow g2,B4.grow g2⟩
theorem k_claim_miss (hR:Rep A σ w) (s:Nat) (t:Txn) (ht:σ.txns.getD s none=some t) (c:Cal) (hc:σ.calls.getD s none=some c) (hmp:A.mp=0) (link x1:Nat) (hv:VL σ link) (h1:1≤t.id) (h2:t.id≤65535) (hx:t.cell c.op.key=none) (hkl:t.keys.length<1000000) (hp:PoolOk σ) (hcnt:σ.count<4000000000000000000) (b0 b1 b2 b3 b4:Nat)
 (B0:Box A.L w b0 (.pointer (some ⟨A.be,0,none⟩))) (B1:Box A.L w b1 (zu (link:Int))) (B2:Box A.L w b2 (zu (x1:Int))) (B3:Box A.L w b3 (.pointer (some ⟨A.bt s,0,none⟩))) (B4:Box A.L w b4 (.pointer (some ⟨A.bc s,0,none⟩))) (hm:σ.word (wslot link 1)≠x1):
 Calls Tryz.prog 287 #[.pointer (some ⟨b0,0,none⟩),.pointer (some ⟨b1,0,none⟩),.pointer (some ⟨b2,0,none⟩),.pointer (some ⟨b3,0,none⟩),.pointer (some ⟨b4,0,none⟩)] w (Ran A w s (σ.run s (.claim link x1))):=by
 have c0:=B0.cell;have c1:=B1.cell;have c2:=B2.cell;have c3:=B3.cell;have hsl:=hR.sl;have e2:=hR.z2;have hs1:Calls Tryz.prog 79 #[zu (link:Int),zi 1] w.drew fun e w'=>e=.returned (zi ((wslot link 1:Nat):Int))∧w'=w.drew:=flip (slot_at link 1 1 rfl hv.lo (by have:=hv.hi;omega) hv.u (by omega) w.drew)
 have HS:=zH hs1;have hm1:Calls Tryz.prog 208 #[.pointer (some ⟨A.bt s,0,none⟩)] w.drew fun e w'=>e=.returned (zu ((mine t:Nat):Int))∧w'=w.drew:=flip (mine_any hR.drew s t ht h1 h2)
 have HM:=zH hm1;have HL:=zH (cas_any hR.drew (wslot link 1) x1 (mine t) (wslot_lt hR hv.lo hv.hi (by omega)) hcnt);have HG:=zG A.L w;have hrun:σ.run s (.claim link x1)=(σ.tick,some (.own link)):=by simp[St.run,St.cas,hm]
 rw[hrun];have hb:(σ.word (wslot link 1)==x1)=false:=by simpa using hm
 have hcs:σ.cas (wslot link 1) x1 (mine t)=σ.tick:=if_neg hm;rw[hb,hcs] at HL;have HB:Hid (∀ w1,Rep A σ.tick w1→Grow A.L w A.L w1→Calls Tryz.prog 214 #[.pointer (some ⟨A.be,0,none⟩),.pointer (some ⟨A.bt s,0,none⟩),.pointer (some ⟨A.bc s,0,none⟩),zu (link:Int)] w1 (Tells A w1 s (σ.tick,.own link))∧w1.cell? ⟨b0,0,none⟩=some (.pointer (some ⟨A.be,0,none⟩))∧w1.cell? ⟨b1,0,none⟩=some (zu (link:Int))∧w1.cell? ⟨b3,0,none⟩=some (.pointer (some ⟨A.bt s,0,none⟩))∧w1.cell? ⟨b4,0,none⟩=some (.pointer (some ⟨A.bc s,0,none⟩))):=
  fun w1 q g=>⟨own_any q s link,(B0.grow g).cell,(B1.grow g).cell,(B3.grow g).cell,(B4.grow g).cell⟩
 clear hR ht hc hv h1 h2 hx hkl hp hcnt B0 B1 B2 B3 B4 hm hrun hb hcs hs1 hm1 hsl hmp;generalize mine t=mt at*;generalize wslot link 1=ws at*;go_enter Tryz.func287,Tryz.ntmps287;go_wp2_with fail;refine wp_region_still_tail 9 (by kernel_rfl) (by kernel_rfl) ?_;simp only[zta,ztb,ztc,ztd]
 repeat still_step
 still_call HS.out
 repeat still_step
 still_call HM.out
 refine wpStill_nil ?_;change wpList _ _ _ _ _ w.drew;generalize w.drew=wd at*;go_wp2_with (first|(go_at_call 69;refine HL.out.mono ?_;rintro e w1 ⟨rfl,q1,q2⟩;have g1:=HG.out.trans q2;obtain⟨hf,d0,d1,d3,d4⟩:=HB.out w1 q1 g1;have HQ:=zH (zA hf g1);clear q1 q2 g1 hf)|(go_at_call 214;refine HQ.out.1.mono ?_;rintro e w2 ⟨A2,v,rfl,p1,p2,p3,p4⟩));go_ret;exact⟨A2,v,rfl,p1,HQ.out.2.trans p2,p3,p4⟩
theorem k_claim_hit (hR:Rep A σ w) (s:Nat) (t:Txn) (ht:σ.txns.getD s none=some t) (c:Cal) (hc:σ.calls.getD s none=some c) (hmp:A.mp=0) (link x1:Nat) (hv:VL σ link) (h1:1≤t.id) (h2:t.id≤65535) (hx:t.cell c.op.key=none) (hkl:t.keys.length<1000000) (hp:PoolOk σ) (hcnt:σ.count<4000000000000000000) (b0 b1 b2 b3 b4:Nat)
 (B0:Box A.L w b0 (.pointer (some ⟨A.be,0,none⟩))) (B1:Box A.L w b1 (zu (link:Int))) (B2:Box A.L w b2 (zu (x1:Int))) (B3:Box A.L w b3 (.pointer (some ⟨A.bt s,0,none⟩))) (B4:Box A.L w b4 (.pointer (some ⟨A.bc s,0,none⟩))) (hm:σ.word (wslot link 1)=x1):
 Calls Tryz.prog 287 #[.pointer (some ⟨b0,0,none⟩),.pointer (some ⟨b1,0,none⟩),.pointer (some ⟨b2,0,none⟩),.pointer (some ⟨b3,0,none⟩),.pointer (some ⟨b4,0,none⟩)] w (Ran A w s (σ.run s (.claim link x1))):=by
 have c0:=B0.cell;have c1:=B1.cell;have c2:=B2.cell;have c3:=B3.cell;have hsl:=hR.sl;have e2:=hR.z2;have hs1:Calls Tryz.prog 79 #[zu (link:Int),zi 1] w.drew fun e w'=>e=.returned (zi ((wslot link 1:Nat):Int))∧w'=w.drew:=flip (slot_at link 1 1 rfl hv.lo (by have:=hv.hi;omega) hv.u (by omega) w.drew)
 have HS:=zH hs1;have hm1:Calls Tryz.prog 208 #[.pointer (some ⟨A.bt s,0,none⟩)] w.drew fun e w'=>e=.returned (zu ((mine t:Nat):Int))∧w'=w.drew:=flip (mine_any hR.drew s t ht h1 h2)
 have HM:=zH hm1;have HL:=zH (cas_any hR.drew (wslot link 1) x1 (mine t) (wslot_lt hR hv.lo hv.hi (by omega)) hcnt);have HG:=zG A.L w;have hrun:σ.run s (.claim link x1)=if c.op.kind=4 then (((σ.put (wslot link 1) (mine t)).takeKey s c.op.key ⟨0,link,false⟩),some (.fin {})) else ((((σ.put (wslot link 1) (mine t)).takeKey s c.op.key ⟨0,link,false⟩).slot s true 0 0).1,some (((σ.put (wslot link 1) (mine t)).takeKey s c.op.key ⟨0,link,false⟩).slot s true 0 0).2):=by
  have e1:σ.t s=t:=txn_get ht;have e2:(σ.put (wslot link 1) (mine t)).c s=c:=call_get hc;have e3:((σ.put (wslot link 1) (mine t)).takeKey s c.op.key ⟨0,link,false⟩).c s=c:=call_get hc;have hcs:σ.cas (wslot link 1) x1 (mine t)=σ.put (wslot link 1) (mine t):=if_pos hm;simp only[St.run,e1,hcs,e2,e3,hm,ne_eq,not_true_eq_false,if_false]
 have HRUN:=zH hrun;generalize σ.run s (.claim link x1)=rr at*;have hb:(σ.word (wslot link 1)==x1)=true:=by simpa using hm
 have hcs:σ.cas (wslot link 1) x1 (mine t)=σ.put (wslot link 1) (mine t):=if_pos hm;rw[hb,hcs] at HL;have HB:Hid (∀ w1,Rep A (σ.put (wslot link 1) (mine t)) w1→Grow A.L w A.L w1→Calls Tryz.prog 288 #[.pointer (some ⟨A.bt s,0,none⟩),zi (c.op.key:Int),zu (link:Int)] w1.drew (Took A w1.drew s c.op.key ((σ.put (wslot link 1) (mine t)).takeKey s c.op.key ⟨0,link,false⟩))∧w1.cell? ⟨b1,0,none⟩=some (zu (link:Int))∧w1.cell? ⟨b3,0,none⟩=some (.pointer (some ⟨A.bt s,0,none⟩))∧w1.cell? ⟨b4,0,none⟩=some (.pointer (some ⟨A.bc s,0,none⟩))∧w1.cell? ⟨A.bc s,1,none⟩=some (zi (c.op.key:Int))):=
  fun w1 q g=>⟨take_tells q.drew s t ht c.op.key link hx hkl,(B1.grow g).cell,(B3.grow g).cell,(B4.grow g).cell,q.call (s:=s) (c:=c) hc 1 rfl⟩
 have HE : Hid (∀ w2 A1 b, Rep A1 ((σ.put (wslot link 1) (mine t)).takeKey s c.op.key ⟨0, link, false⟩) w2 → Grow A.L w A1.L w2 → Stay A A1 s → A1.bx s c.op.key = b →
     w2.cell? ⟨b0,0,none⟩=some (.pointer (some ⟨A.be,0,none⟩))∧w2.cell? ⟨b3,0,none⟩=some (.pointer (some ⟨A.bt s,0,none⟩))∧w2.cell? ⟨b4,0,none⟩=some (.pointer (some ⟨A.bc s,0,none⟩))∧w2.cell? ⟨A.bc s,0,none⟩=some (zi (c.op.kind:Int))∧
     Calls Tryz.prog 195 #[.pointer (some ⟨A.be,0,none⟩),.pointer (some ⟨A.bc s,0,none⟩),.agg #[zi 0,zi 0,.slice none 0 0,zi 0,zi 0]] w2 (Tells A1 w2 s (((σ.put (wslot link 1) (mine t)).takeKey s c.op.key ⟨0,link,false⟩),.fin {}))∧
     Calls Tryz.prog 249 #[.pointer (some ⟨A.be,0,none⟩),.pointer (some ⟨A.bt s,0,none⟩),.pointer (some ⟨A.bc s,0,none⟩),.pointer (some ⟨b,0,none⟩),zu 0,.slice none 0 0] w2 (Tells A1 w2 s (((σ.put (wslot link 1) (mine t)).takeKey s c.op.key ⟨0,link,false⟩).slot s true 0 0))):=by
  intro w2 A1 b r2 g st hbx;have hc2:((σ.put (wslot link 1) (mine t)).takeKey s c.op.key ⟨0,link,false⟩).calls.getD s none=some c:=hc;have k0:=r2.call hc2 0 rfl;rw[st.bc] at k0;have he:=ends_at r2 s {} 0 0 0 0 (.slice none 0 0) rfl (.inr ⟨rfl,rfl⟩);rw[st.be,st.bc] at he;have hp':PoolOk ((σ.put (wslot link 1) (mine t)).takeKey s c.op.key ⟨0,link,false⟩):=⟨hp.n,hp.free,hp.tag,hp.worn⟩
  have hsl:=slot_tells r2 s c hc2 true 0 0 (.slice none 0 0) (FRow.nil _ _ _) (.inl rfl) (st.mp.trans hmp) hp'.n hp'.list hp'.tag;have ex:(kp A1 ((σ.put (wslot link 1) (mine t)).takeKey s c.op.key ⟨0,link,false⟩) s).xo true=.pointer (some ⟨b,0,none⟩):=by
   show ptr (A1.bx s (((σ.put (wslot link 1) (mine t)).takeKey s c.op.key ⟨0,link,false⟩).c s).op.key)=_;rw[call_get hc2,hbx]
  rw[ex,st.be,st.bt,st.bc] at hsl;exact⟨(B0.grow g).cell,(B3.grow g).cell,(B4.grow g).cell,k0,he,hsl⟩
 clear hR ht hc hv h1 h2 hx hkl hp hcnt B0 B1 B2 B3 B4 hm hrun hb hcs hs1 hm1 hsl hmp;generalize ((σ.put (wslot link 1) (mine t)).takeKey s c.op.key ⟨0,link,false⟩)=σ1 at*;generalize mine t=mt at*;generalize wslot link 1=ws at*;generalize c.op.key=key at*;generalize c.op.kind=kd at*
 by_cases h4:kd=4
 · have HE2:=zH (HRUN.out.trans (if_pos h4))
   obtain⟨fa1,fa2,fa3,fa4,fa5⟩:=zeT (x:=kd) (c:=4) (ci:=4) (by omega);clear h4;go_enter Tryz.func287,Tryz.ntmps287;go_wp2_with fail;refine wp_region_still_tail 9 (by kernel_rfl) (by kernel_rfl) ?_;simp only[zta,ztb,ztc,ztd]
   repeat still_step
   still_call HS.out
   repeat still_step
   still_call HM.out
   refine wpStill_nil ?_;change wpList _ _ _ _ _ w.drew;generalize w.drew=wd at*;go_wp2_with (go_at_call 69;refine HL.out.mono ?_;rintro e w1 ⟨rfl,q1,q2⟩;have g1:=HG.out.trans q2;obtain⟨hf,d1,d3,d4,d5⟩:=HB.out w1 q1 g1;have HQ:=zH (zA hf (g1.trans (Grow.drew _ _)));clear q1 q2 g1 hf);refine wp_region_still_tail 7 (by kernel_rfl) (by kernel_rfl) ?_;simp only[zta,ztb,ztc,ztd]
   repeat still_step
   refine wpStill_nil ?_;change wpList _ _ _ _ _ w1.drew;generalize w1.drew=wd1 at*;go_wp2_with (first|(go_at_call 288;refine HQ.out.1.mono ?_;rintro e w2 ⟨b,rfl,A1,r2,g2,st,hbx,hvp⟩;obtain⟨d0,d3,d4,k0,he,hs⟩:=HE.out w2 A1 b r2 (HQ.out.2.trans g2) st hbx;have HZ:=zH (zA he (zA (HQ.out.2.trans g2) st));clear r2 g2 st hbx hvp he hs)|(go_at_call 195;refine HZ.out.1.mono ?_;rintro e w3 ⟨A2,v,rfl,p1,p2,p3,p4⟩));go_ret;rw[HE2.out];exact⟨A2,v,rfl,p1,HZ.out.2.1.trans p2,HZ.out.2.2.trans p3,p4⟩
 · have HE2:=zH (HRUN.out.trans (if_neg h4))
   obtain⟨fa1,fa2,fa3,fa4,fa5⟩:=zeF (x:=kd) (c:=4) (ci:=4) (by omega);clear h4;go_enter Tryz.func287,Tryz.ntmps287;go_wp2_with fail;refine wp_region_still_tail 9 (by kernel_rfl) (by kernel_rfl) ?_;simp only[zta,ztb,ztc,ztd]
   repeat still_step
   still_call HS.out
   repeat still_step
   still_call HM.out
   refine wpStill_nil ?_;change wpList _ _ _ _ _ w.drew;generalize w.drew=wd at*;go_wp2_with (go_at_call 69;refine HL.out.mono ?_;rintro e w1 ⟨rfl,q1,q2⟩;have g1:=HG.out.trans q2;obtain⟨hf,d1,d3,d4,d5⟩:=HB.out w1 q1 g1;have HQ:=zH (zA hf (g1.trans (Grow.drew _ _)));clear q1 q2 g1 hf);refine wp_region_still_tail 7 (by kernel_rfl) (by kernel_rfl) ?_;simp only[zta,ztb,ztc,ztd]
   repeat still_step
   refine wpStill_nil ?_;change wpList _ _ _ _ _ w1.drew;generalize w1.drew=wd1 at*;go_wp2_with (first|(go_at_call 288;refine HQ.out.1.mono ?_;rintro e w2 ⟨b,rfl,A1,r2,g2,st,hbx,hvp⟩;obtain⟨d0,d3,d4,k0,he,hs⟩:=HE.out w2 A1 b r2 (HQ.out.2.trans g2) st hbx;have HZ:=zH (zA hs (zA (HQ.out.2.trans g2) st));clear r2 g2 st hbx hvp he hs)|(go_at_call 249;refine HZ.out.1.mono ?_;rintro e w3 ⟨A2,v,rfl,p1,p2,p3,p4⟩));go_ret;rw[HE2.out];exact⟨A2,v,rfl,p1,HZ.out.2.1.trans p2,HZ.out.2.2.trans p3,p4⟩
theorem k_claim (hR:Rep A σ w) (s:Nat) (t:Txn) (ht:σ.txns.getD s none=some t) (c:Cal) (hc:σ.calls.getD s none=some c) (hmp:A.mp=0) (link x1:Nat) (hv:VL σ link) (h1:1≤t.id) (h2:t.id≤65535) (hx:t.cell c.op.key=none) (hkl:t.keys.length<1000000) (hp:PoolOk σ) (hcnt:σ.count<4000000000000000000) (b0 b1 b2 b3 b4:Nat)
 (B0:Box A.L w b0 (.pointer (some ⟨A.be,0,none⟩))) (B1:Box A.L w b1 (zu (link:Int))) (B2:Box A.L w b2 (zu (x1:Int))) (B3:Box A.L w b3 (.pointer (some ⟨A.bt s,0,none⟩))) (B4:Box A.L w b4 (.pointer (some ⟨A.bc s,0,none⟩))):
 Calls Tryz.prog 287 #[.pointer (some ⟨b0,0,none⟩),.pointer (some ⟨b1,0,none⟩),.pointer (some ⟨b2,0,none⟩),.pointer (some ⟨b3,0,none⟩),.pointer (some ⟨b4,0,none⟩)] w (Ran A w s (σ.run s (.claim link x1))):=by
 by_cases hm:σ.word (wslot link 1)=x1
 · exact k_claim_hit hR s t ht c hc hmp link x1 hv h1 h2 hx hkl hp hcnt b0 b1 b2 b3 b4 B0 B1 B2 B3 B4 hm
 · exact k_claim_miss hR s t ht c hc hmp link x1 hv h1 h2 hx hkl hp hcnt b0 b1 b2 b3 b4 B0 B1 B2 B3 B4 hm
theorem k_overC_miss (hR:Rep A σ w) (s:Nat) (t:Txn) (ht:σ.txns.getD s none=some t) (c:Cal) (hc:σ.calls.getD s none=some c) (link head:Nat) (hk:c.op.key<64) (x:Cel) (hx:t.cell c.op.key=some x) (hcnt:σ.count<4000000000000000000) (b0 b1 b2 b3 b4 b5:Nat)
 (B0:Box A.L w b0 (.pointer (some ⟨A.be,0,none⟩))) (B1:Box A.L w b1 (.pointer (some ⟨A.bc s,0,none⟩))) (B2:Box A.L w b2 (zu (head:Int))) (B3:Box A.L w b3 (zu (link:Int))) (B4:Box A.L w b4 (.pointer (some ⟨A.bt s,0,none⟩))) (B5:Box A.L w b5 (.pointer (some ⟨(kp A σ s).x,0,none⟩))) (hm:σ.word (9+c.op.key)≠head):
 Calls Tryz.prog 308 #[.pointer (some ⟨b0,0,none⟩),.pointer (some ⟨b1,0,none⟩),.pointer (some ⟨b2,0,none⟩),.pointer (some ⟨b3,0,none⟩),.pointer (some ⟨b4,0,none⟩),.pointer (some ⟨b5,0,none⟩)] w (Ran A w s (σ.run s (.overC link head))):=by
 have c0:=B0.cell;have c1:=B1.cell;have c2:=B2.cell;have c3:=B3.cell;have e2:=hR.z2;have k1:w.cell? ⟨A.bc s,1,none⟩=some (zi (c.op.key:Int)):=hR.call hc 1 rfl;have n1:IntKind.i64.wrap (9+(c.op.key:Int))=9+(c.op.key:Int):=by rw[IntKind.wrap_i64];omega
 have HL:=zH (cas_i hR.drew (9+c.op.key) head link (9+(c.op.key:Int)) (by omega) (by rw[hR.nw];omega) hcnt);have HG:=zG A.L w;have hpx:(kp A σ s).x=A.bx s c.op.key:=by unfold kp;rw[call_get hc]
 have hrun:σ.run s (.overC link head)=(σ.tick,some (.over link)):=by simp[St.run,call_get hc,St.cas,hm]
 rw[hrun];have hb:(σ.word (9+c.op.key)==head)=false:=by simpa using hm
 have hcs:σ.cas (9+c.op.key) head link=σ.tick:=if_neg hm;rw[hb,hcs] at HL;have HB:Hid (∀ w1,Rep A σ.tick w1→Grow A.L w A.L w1→Calls Tryz.prog 282 #[.pointer (some ⟨A.be,0,none⟩),.pointer (some ⟨A.bt s,0,none⟩),.pointer (some ⟨A.bc s,0,none⟩),.pointer (some ⟨(kp A σ s).x,0,none⟩),zu (link:Int)] w1 (Tells A w1 s (σ.tick,.over link))∧w1.cell? ⟨b0,0,none⟩=some (.pointer (some ⟨A.be,0,none⟩))∧w1.cell? ⟨b1,0,none⟩=some (.pointer (some ⟨A.bc s,0,none⟩))∧w1.cell? ⟨b3,0,none⟩=some (zu (link:Int))∧w1.cell? ⟨b4,0,none⟩=some (.pointer (some ⟨A.bt s,0,none⟩))∧w1.cell? ⟨b5,0,none⟩=some (.pointer (some ⟨(kp A σ s).x,0,none⟩))):=
  fun w1 q g=>⟨over_tells q s link,(B0.grow g).cell,(B1.grow g).cell,(B3.grow g).cell,(B4.grow g).cell,(B5.grow g).cell⟩
 clear hR ht hc hk hx hcnt B0 B1 B2 B3 B4 B5 hm hrun hb hcs hpx;generalize (kp A σ s).x=kx at*;generalize c.op.key=key at*;go_enter Tryz.func308,Tryz.ntmps308;go_wp2_with fail;refine wp_region_still_tail 12 (by kernel_rfl) (by kernel_rfl) ?_;simp only[zta,ztb,ztc,ztd]
 repeat still_step
 refine wpStill_nil ?_;change wpList _ _ _ _ _ w.drew;generalize w.drew=wd at*;go_wp2_with (first|(go_at_call 69;refine HL.out.mono ?_;rintro e w1 ⟨rfl,q1,q2⟩;have g1:=HG.out.trans q2;obtain⟨hf,d0,d1,d3,d4,d5⟩:=HB.out w1 q1 g1;have HQ:=zH (zA hf g1);clear q1 q2 g1 hf)|(go_at_call 282;refine HQ.out.1.mono ?_;rintro e w2 ⟨A2,v,rfl,p1,p2,p3,p4⟩));go_ret;exact⟨A2,v,rfl,p1,HQ.out.2.trans p2,p3,p4⟩
theorem upd_upd (l:List (Nat×Cel)) (key:Nat) (x y:Cel):upd (upd l key x) key y=upd l key y:=by
 unfold upd;rw[List.map_map];refine List.map_congr_left fun p hp=>?_
 by_cases h:p.1=key<;>simp[h]
theorem upd_get (l:List (Nat×Cel)) (key:Nat) (x y:Cel) (h:l.lookup key=some x):(upd l key y).lookup key=some y:=by
 induction l with
 |nil=>cases h
 |cons a l ih=>
  obtain⟨k,z⟩:=a
  by_cases hk:key=k
  · subst hk
    unfold upd;simp[List.lookup]
  · rw[List.lookup_cons,beq_false_of_ne hk] at h
    have e:upd ((k,z)::l) key y=(k,z)::upd l key y:=by unfold upd;simp[Ne.symm hk]
    rw[e,List.lookup_cons,beq_false_of_ne hk];exact ih h
theorem k_overC_hit (hR:Rep A σ w) (s:Nat) (t:Txn) (ht:σ.txns.getD s none=some t) (c:Cal) (hc:σ.calls.getD s none=some c) (link head:Nat) (hk:c.op.key<64) (x:Cel) (hx:t.cell c.op.key=some x) (hcnt:σ.count<4000000000000000000) (b0 b1 b2 b3 b4 b5:Nat)
 (B0:Box A.L w b0 (.pointer (some ⟨A.be,0,none⟩))) (B1:Box A.L w b1 (.pointer (some ⟨A.bc s,0,none⟩))) (B2:Box A.L w b2 (zu (head:Int))) (B3:Box A.L w b3 (zu (link:Int))) (B4:Box A.L w b4 (.pointer (some ⟨A.bt s,0,none⟩))) (B5:Box A.L w b5 (.pointer (some ⟨(kp A σ s).x,0,none⟩))) (hm:σ.word (9+c.op.key)=head):
 Calls Tryz.prog 308 #[.pointer (some ⟨b0,0,none⟩),.pointer (some ⟨b1,0,none⟩),.pointer (some ⟨b2,0,none⟩),.pointer (some ⟨b3,0,none⟩),.pointer (some ⟨b4,0,none⟩),.pointer (some ⟨b5,0,none⟩)] w (Ran A w s (σ.run s (.overC link head))):=by
 have c0:=B0.cell;have c1:=B1.cell;have c2:=B2.cell;have c3:=B3.cell;have e2:=hR.z2;have k1:w.cell? ⟨A.bc s,1,none⟩=some (zi (c.op.key:Int)):=hR.call hc 1 rfl;have n1:IntKind.i64.wrap (9+(c.op.key:Int))=9+(c.op.key:Int):=by rw[IntKind.wrap_i64];omega
 have HL:=zH (cas_i hR.drew (9+c.op.key) head link (9+(c.op.key:Int)) (by omega) (by rw[hR.nw];omega) hcnt);have HG:=zG A.L w;have hpx:(kp A σ s).x=A.bx s c.op.key:=by unfold kp;rw[call_get hc]
 have hrun:σ.run s (.overC link head)=(((σ.put (9+c.op.key) link).setX s c.op.key {(σ.put (9+c.op.key) link).x s c.op.key with own:=link,there:=true}),some (.fin {})):=by simp[St.run,call_get hc,St.cas,hm]
 rw[hrun];have hb:(σ.word (9+c.op.key)==head)=true:=by simpa using hm
 have hcs:σ.cas (9+c.op.key) head link=σ.put (9+c.op.key) link:=if_pos hm;rw[hb,hcs] at HL;rw[hpx] at B5
 have HE : Hid (∀ w1, Rep A (σ.put (9 + c.op.key) link) w1 → Grow A.L w A.L w1 →
     w1.cell? ⟨A.bx s c.op.key,0,none⟩=some (zu (x.own:Int))∧w1.frozen? ⟨A.bx s c.op.key,0,none⟩=false∧w1.cell? ⟨A.bx s c.op.key,2,none⟩=some (.bool x.there)∧w1.frozen? ⟨A.bx s c.op.key,2,none⟩=false∧w1.cell? ⟨b3,0,none⟩=some (zu (link:Int))∧w1.cell? ⟨b5,0,none⟩=some (.pointer (some ⟨A.bx s c.op.key,0,none⟩))∧(w1.setCell ⟨A.bx s c.op.key,0,none⟩ (zu (link:Int))).cell? ⟨b5,0,none⟩=some (.pointer (some ⟨A.bx s c.op.key,0,none⟩))∧(w1.setCell ⟨A.bx s c.op.key,0,none⟩ (zu (link:Int))).cell? ⟨b3,0,none⟩=some (zu (link:Int))∧
     ∀ ws,((w1.setCell ⟨A.bx s c.op.key,0,none⟩ (zu (link:Int))).setCell ⟨A.bx s c.op.key,2,none⟩ (.bool true)).drew=ws→ws.cell? ⟨b0,0,none⟩=some (.pointer (some ⟨A.be,0,none⟩))∧ws.cell? ⟨b1,0,none⟩=some (.pointer (some ⟨A.bc s,0,none⟩))∧
     Calls Tryz.prog 195 #[.pointer (some ⟨A.be,0,none⟩),.pointer (some ⟨A.bc s,0,none⟩),.agg #[zi 0,zi 0,.slice none 0 0,zi 0,zi 0]] ws (Tells A ws s (((σ.put (9+c.op.key) link).setX s c.op.key {(σ.put (9+c.op.key) link).x s c.op.key with own:=link,there:=true}),.fin {}))∧
     Grow A.L w A.L ws):=by
  intro w1 r1 g1;have ht1:(σ.put (9+c.op.key) link).txns.getD s none=some t:=ht;obtain⟨a0,a1,a2⟩:=r1.cel ht1 hx;obtain⟨r3,g3⟩:=r1.celSet ht1 hx {x with own:=link} 0 (zu (link:Int)) rfl;refine⟨a0,r1.celF ht1 hx 0,a2,r1.celF ht1 hx 2,(B3.grow g1).cell,(B5.grow g1).cell,(B5.grow (g1.trans g3)).cell,(B3.grow (g1.trans g3)).cell,?_⟩;rintro ws rfl;have ht3:((σ.put (9+c.op.key) link).setT s {t with cells:=upd t.cells c.op.key {x with own:=link}}).txns.getD s none=some {t with cells:=upd t.cells c.op.key {x with own:=link}}:=by rw[getT_set (lt_of_txn ht1),if_pos rfl]
  have hx3:({t with cells:=upd t.cells c.op.key {x with own:=link}}:Txn).cell c.op.key=some {x with own:=link}:=upd_get _ _ _ _ hx;obtain⟨r4,g4⟩:=r3.celSet ht3 hx3 {x with own:=link,there:=true} 2 (.bool true) rfl;have eS:((σ.put (9+c.op.key) link).setT s {t with cells:=upd t.cells c.op.key {x with own:=link}}).setT s {t with cells:=upd (upd t.cells c.op.key {x with own:=link}) c.op.key {x with own:=link,there:=true}}=((σ.put (9+c.op.key) link).setX s c.op.key {(σ.put (9+c.op.key) link).x s c.op.key with own:=link,there:=true}):=by
   unfold St.setX St.x;rw[txn_get ht1,hx,upd_upd];unfold St.setT;simp
  have r5:=r4.drew;rw[show (((σ.put (9+c.op.key) link).setT s {t with cells:=upd t.cells c.op.key {x with own:=link}}).setT s {({t with cells:=upd t.cells c.op.key {x with own:=link}}:Txn) with cells:=upd ({t with cells:=upd t.cells c.op.key {x with own:=link}}:Txn).cells c.op.key {x with own:=link,there:=true}})=((σ.put (9+c.op.key) link).setX s c.op.key {(σ.put (9+c.op.key) link).x s c.op.key with own:=link,there:=true}) from eS] at r5;have g5:=((g1.trans g3).trans g4).trans (Grow.drew _ _);have he:=ends_at r5 s {} 0 0 0 0 (.slice none 0 0) rfl (.inr ⟨rfl,rfl⟩);exact⟨(B0.grow g5).cell,(B1.grow g5).cell,he,g5⟩
 clear hR ht hc hk hx hcnt B0 B1 B2 B3 B4 B5 hm hrun hb hcs hpx;generalize ((σ.put (9+c.op.key) link).setX s c.op.key {(σ.put (9+c.op.key) link).x s c.op.key with own:=link,there:=true})=σ2 at*;generalize A.bx s c.op.key=kx at*;generalize c.op.key=key at*;go_enter Tryz.func308,Tryz.ntmps308;go_wp2_with fail;refine wp_region_still_tail 12 (by kernel_rfl) (by kernel_rfl) ?_;simp only[zta,ztb,ztc,ztd]
 repeat still_step
 refine wpStill_nil ?_;change wpList _ _ _ _ _ w.drew;generalize w.drew=wd at*;go_wp2_with (go_at_call 69;refine HL.out.mono ?_;rintro e w1 ⟨rfl,q1,q2⟩;have g1:=HG.out.trans q2;obtain⟨a0,z0,a2,z2,d3,d5,f5,f3,hz⟩:=HE.out w1 q1 g1;have HZ:=zH hz;clear q1 q2 g1 hz)
 go_region
 generalize hws:World.drew _=ws;obtain⟨d0,d1,hf,gg⟩:=HZ.out ws hws;have HF:=zH (zA hf gg);clear hf gg hws a0 z0 a2 z2 d3 d5 f5 f3;go_wp2_with (go_at_call 195;refine HF.out.1.mono ?_;rintro e w3 ⟨A2,v,rfl,p1,p2,p3,p4⟩);go_ret;exact⟨A2,v,rfl,p1,HF.out.2.trans p2,p3,p4⟩
theorem k_overC (hR:Rep A σ w) (s:Nat) (t:Txn) (ht:σ.txns.getD s none=some t) (c:Cal) (hc:σ.calls.getD s none=some c) (link head:Nat) (hk:c.op.key<64) (x:Cel) (hx:t.cell c.op.key=some x) (hcnt:σ.count<4000000000000000000) (b0 b1 b2 b3 b4 b5:Nat)
 (B0:Box A.L w b0 (.pointer (some ⟨A.be,0,none⟩))) (B1:Box A.L w b1 (.pointer (some ⟨A.bc s,0,none⟩))) (B2:Box A.L w b2 (zu (head:Int))) (B3:Box A.L w b3 (zu (link:Int))) (B4:Box A.L w b4 (.pointer (some ⟨A.bt s,0,none⟩))) (B5:Box A.L w b5 (.pointer (some ⟨(kp A σ s).x,0,none⟩))):
 Calls Tryz.prog 308 #[.pointer (some ⟨b0,0,none⟩),.pointer (some ⟨b1,0,none⟩),.pointer (some ⟨b2,0,none⟩),.pointer (some ⟨b3,0,none⟩),.pointer (some ⟨b4,0,none⟩),.pointer (some ⟨b5,0,none⟩)] w (Ran A w s (σ.run s (.overC link head))):=by
 by_cases hm:σ.word (9+c.op.key)=head
 · exact k_overC_hit hR s t ht c hc link head hk x hx hcnt b0 b1 b2 b3 b4 b5 B0 B1 B2 B3 B4 B5 hm
 · exact k_overC_miss hR s t ht c hc link head hk x hx hcnt b0 b1 b2 b3 b4 b5 B0 B1 B2 B3 B4 B5 hm
end Go.Proofs.YtiimlopcifljeaaGreatDoor.Em
