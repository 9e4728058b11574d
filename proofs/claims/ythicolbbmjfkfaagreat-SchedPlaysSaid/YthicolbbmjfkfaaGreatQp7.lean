import Derived.Test.YthicolbbmjfkfaaGreatQp5
import Derived.Test.YthicolbbmjfkfaaGreatQp6
namespace Go.Proofs.YthicolbbmjfkfaaGreat.Em
open Go.ChangeShapes Go.WideShapes Go.ChangeAt Go.RowKit En
set_option linter.unusedVariables false
set_option linter.unusedSimpArgs false
set_option maxRecDepth 100000
set_option maxHeartbeats 1600000
variable {A:Book} {σ:St} {w:World}
theorem k_ownTxn (hR:Rep A σ w) (s:Nat) (link x1 id:Nat) (hid:id≤65535) (hpl:σ.place id<σ.words.length) (hw:σ.word (σ.place id)<18446744073709551616) (hcnt:σ.count<4000000000000000000) (b0 b1 b2 b3 b4 b5:Nat)
 (B0:Box A.L w b0 (.pointer (some ⟨A.be,0,none⟩))) (B1:Box A.L w b1 (zi (id:Int))) (B2:Box A.L w b2 (.pointer (some ⟨A.bt s,0,none⟩))) (B3:Box A.L w b3 (.pointer (some ⟨A.bc s,0,none⟩))) (B4:Box A.L w b4 (zu (link:Int))) (B5:Box A.L w b5 (zu (x1:Int))):
 Calls Tryz.prog 157 #[.pointer (some ⟨b0,0,none⟩),.pointer (some ⟨b1,0,none⟩),.pointer (some ⟨b2,0,none⟩),.pointer (some ⟨b3,0,none⟩),.pointer (some ⟨b4,0,none⟩),.pointer (some ⟨b5,0,none⟩)] w (Ran A w s (σ.run s (.ownTxn link x1 id))):=by
 have c0:=B0.cell;have c1:=B1.cell;have e2:=hR.z2;have HK:Hid (∀ w',Kp A w w'→w'.cell? ⟨b0,0,none⟩=some (.pointer (some ⟨A.be,0,none⟩))∧w'.cell? ⟨b1,0,none⟩=some (zi (id:Int))∧w'.cell? ⟨A.be,2,none⟩=some (.pointer (some ⟨A.ba,0,none⟩))):=by
  obtain⟨_,x0⟩:=B0;obtain⟨_,x1⟩:=B1;exact fun w' k=>⟨k.fix _ _ _ x0.1 c0,k.fix _ _ _ x1.1 c1,k.ea⟩
 have HP:=zH (place_still hR.drew id hid);have HL:=zH (load_any hR.drew (σ.place id) hpl hcnt);have HU:=zH (fun w'=>unpack_any (σ.word (σ.place id)) hw w');have HG:=zG A.L w;have HB:Hid (∀ w1,Rep A σ.tick w1→Grow A.L w A.L w1→w1.cell? ⟨b0,0,none⟩=some (.pointer (some ⟨A.be,0,none⟩))∧w1.cell? ⟨b2,0,none⟩=some (.pointer (some ⟨A.bt s,0,none⟩))∧w1.cell? ⟨b3,0,none⟩=some (.pointer (some ⟨A.bc s,0,none⟩))∧w1.cell? ⟨b4,0,none⟩=some (zu (link:Int))∧w1.cell? ⟨b5,0,none⟩=some (zu (x1:Int))):=fun w1 q g=>⟨(B0.grow g).cell,(B2.grow g).cell,(B3.grow g).cell,(B4.grow g).cell,(B5.grow g).cell⟩
 have hrun:σ.run s (.ownTxn link x1 id)=(σ.tick,some (if stateOf (σ.word (σ.place id))≠4 then .abort 14 2 else .claim link x1)):=by
  simp only[St.run];split<;>rfl
 rw[hrun];have HAb:Hid (∀ w1,Rep A σ.tick w1→Calls Tryz.prog 97 #[.pointer (some ⟨A.be,0,none⟩),.pointer (some ⟨A.bt s,0,none⟩),.pointer (some ⟨A.bc s,0,none⟩),zi 14,zi 2] w1 (Tells A w1 s (σ.tick,.abort 14 2))):=fun w1 q=>abort_any q s 14 2
 have HCl:Hid (∀ w1,Rep A σ.tick w1→Calls Tryz.prog 156 #[.pointer (some ⟨A.be,0,none⟩),.pointer (some ⟨A.bt s,0,none⟩),.pointer (some ⟨A.bc s,0,none⟩),zu (link:Int),zu (x1:Int)] w1 (Tells A w1 s (σ.tick,.claim link x1))):=fun w1 q=>claim_any q s link x1
 clear hR hid hpl hw hcnt B0 B1 B2 B3 B4 B5 hrun;generalize σ.word (σ.place id)=x at*;generalize hst:stateOf x=st at*;generalize hen:endOf x=en at*;clear hst hen
 by_cases h4:st=4
 · rw[if_neg (fun h=>h h4)]
   obtain⟨fc1,fc2,fc3,fc4,fc5⟩:=zeT (x:=st) (c:=4) (ci:=4) (by omega);clear h4;go_enter Tryz.func157,Tryz.ntmps157;go_wp2_with fail
   go_region_held3 (fun w'=>w'.cell? ⟨b0,0,none⟩=some (.pointer (some ⟨A.be,0,none⟩))∧w'.cell? ⟨b1,0,none⟩=some (zi (id:Int))∧w'.cell? ⟨A.be,2,none⟩=some (.pointer (some ⟨A.ba,0,none⟩)))
    (first|exact⟨c0,c1,e2⟩|assumption|exact HK.out _ (Kp.of (by assumption) (by assumption) (by assumption)))
    (first|(go_at_call 48;refine HP.out.mono ?_;rintro e w' ⟨rfl,rfl⟩)|(go_at_call 42;refine HL.out.mono ?_;rintro e w1 ⟨rfl,q1,q2⟩;have q4:=HG.out.trans q2;have q3:=Stay.refl A s;clear q2)|(go_at_call 109;refine (HU.out _).mono ?_;rintro e w' ⟨rfl,rfl⟩))
   have HQ:=zH (zA (‹Rep A σ.tick _›) (‹Grow A.L w A.L _›));obtain⟨d0,d2,d3,d4,d5⟩:=HB.out _ HQ.out.1 HQ.out.2;go_wp2_with (go_at_call 156;refine (HCl.out _ HQ.out.1).mono ?_;rintro e w2 ⟨A2,v,rfl,p1,p2,p3,p4⟩);go_ret;exact⟨A2,v,rfl,p1,HQ.out.2.trans p2,p3,p4⟩
 · rw[if_pos h4]
   obtain⟨fc1,fc2,fc3,fc4,fc5⟩:=zeF (x:=st) (c:=4) (ci:=4) (by omega);clear h4;go_enter Tryz.func157,Tryz.ntmps157;go_wp2_with fail
   go_region_held3 (fun w'=>w'.cell? ⟨b0,0,none⟩=some (.pointer (some ⟨A.be,0,none⟩))∧w'.cell? ⟨b1,0,none⟩=some (zi (id:Int))∧w'.cell? ⟨A.be,2,none⟩=some (.pointer (some ⟨A.ba,0,none⟩)))
    (first|exact⟨c0,c1,e2⟩|assumption|exact HK.out _ (Kp.of (by assumption) (by assumption) (by assumption)))
    (first|(go_at_call 48;refine HP.out.mono ?_;rintro e w' ⟨rfl,rfl⟩)|(go_at_call 42;refine HL.out.mono ?_;rintro e w1 ⟨rfl,q1,q2⟩;have q4:=HG.out.trans q2;have q3:=Stay.refl A s;clear q2)|(go_at_call 109;refine (HU.out _).mono ?_;rintro e w' ⟨rfl,rfl⟩))
   have HQ:=zH (zA (‹Rep A σ.tick _›) (‹Grow A.L w A.L _›));obtain⟨d0,d2,d3,d4,d5⟩:=HB.out _ HQ.out.1 HQ.out.2;go_wp2_with (go_at_call 97;refine (HAb.out _ HQ.out.1).mono ?_;rintro e w2 ⟨A2,v,rfl,p1,p2,p3,p4⟩);go_ret;exact⟨A2,v,rfl,p1,HQ.out.2.trans p2,p3,p4⟩
theorem k_wait (hR:Rep A σ w) (s:Nat) (t:Txn) (ht:σ.txns.getD s none=some t) (c:Cal) (hc:σ.calls.getD s none=some c) (i bd:Nat) (hi:t.bonds[i]? =some bd) (hil:t.bonds.length<1000000) (hid:bd≤65535) (hpl:σ.place bd<σ.words.length) (hw:σ.word (σ.place bd)<18446744073709551616) (hcnt:σ.count<4000000000000000000) (b0 b1 b2 b3 b4:Nat)
 (B0:Box A.L w b0 (.pointer (some ⟨A.be,0,none⟩))) (B1:Box A.L w b1 (.pointer (some ⟨A.bt s,0,none⟩))) (B2:Box A.L w b2 (zi (i:Int))) (B3:Box A.L w b3 (.pointer (some ⟨A.bc s,0,none⟩))) (B4:Box A.L w b4 (.func (.func 164) #[] #[.pointer (some ⟨b0,0,none⟩),.pointer (some ⟨b1,0,none⟩),.pointer (some ⟨b2,0,none⟩),.pointer (some ⟨b3,0,none⟩),.pointer (some ⟨b4,0,none⟩)])):
 Calls Tryz.prog 164 #[.pointer (some ⟨b0,0,none⟩),.pointer (some ⟨b1,0,none⟩),.pointer (some ⟨b2,0,none⟩),.pointer (some ⟨b3,0,none⟩),.pointer (some ⟨b4,0,none⟩)] w (Ran A w s (σ.run s (.wait i))):=by
 have hown0:=hR.mem.all (.bonds s);rw[mem_bonds ht] at hown0;have hj:(t.bonds.map i64)[i]? =some (zi (bd:Int)):=by rw[List.getElem?_map,hi];rfl
 obtain⟨g0,capv,hv,_⟩:=own_at hown0.1 hj;have HKK:Hid (∀ σ' w',Rep A σ' w'→σ'.txns=σ.txns→Grow A.L w A.L w'→w'.cell? ⟨b0,0,none⟩=some (.pointer (some ⟨A.be,0,none⟩))∧w'.cell? ⟨b1,0,none⟩=some (.pointer (some ⟨A.bt s,0,none⟩))∧w'.cell? ⟨b2,0,none⟩=some (zi (i:Int))∧w'.cell? ⟨A.be,2,none⟩=some (.pointer (some ⟨A.ba,0,none⟩))∧w'.cell? ⟨A.bt s,9,none⟩=some (.slice (some ⟨g0,0,none⟩) t.bonds.length capv)∧w'.cell? ⟨g0,i,none⟩=some (zi (bd:Int))):=by
  intro σ' w' r he g;have ht':σ'.txns.getD s none=some t:=by rw[he];exact ht
  have h9:=r.txn ht' 9 (v:=A.vbonds s) rfl;have hown:=r.mem.all (.bonds s);rw[mem_bonds ht'] at hown;obtain⟨g1,cap1,hv1,hc1⟩:=own_at hown.1 hj;obtain rfl:g0=g1:=by rw[hv] at hv1;simp at hv1;exact hv1.1
  rw[hv] at h9;exact⟨(B0.grow g).cell,(B1.grow g).cell,(B2.grow g).cell,r.eng 2 rfl,h9,hc1⟩
 have HKT:Hid (∀ w',Rep A σ.tick w'→Grow A.L w A.L w'→w'.cell? ⟨b0,0,none⟩=some (.pointer (some ⟨A.be,0,none⟩))∧w'.cell? ⟨b1,0,none⟩=some (.pointer (some ⟨A.bt s,0,none⟩))∧w'.cell? ⟨b2,0,none⟩=some (zi (i:Int))∧w'.cell? ⟨A.be,2,none⟩=some (.pointer (some ⟨A.ba,0,none⟩))∧w'.cell? ⟨A.bt s,9,none⟩=some (.slice (some ⟨g0,0,none⟩) t.bonds.length capv)∧w'.cell? ⟨g0,i,none⟩=some (zi (bd:Int))):=fun w' r g=>HKK.out σ.tick w' r rfl g
 obtain⟨c0,c1,c2,e2,h9,hg⟩:=HKK.out σ w hR rfl (Grow.refl _ _);have b1':(i:Int)<(t.bonds.length:Int):=by have:=(List.getElem?_eq_some_iff.1 hi).1;omega
 have b0':(0:Int)≤(i:Int):=by omega
 have HP:=zH (place_still hR.drew bd hid);have HL:=zH (load_any hR.drew (σ.place bd) hpl hcnt);have HU:=zH (fun w'=>unpack_any (σ.word (σ.place bd)) hw w');have HG:=zG A.L w;have HB:Hid (∀ w1,Rep A σ.tick w1→Grow A.L w A.L w1→w1.cell? ⟨b0,0,none⟩=some (.pointer (some ⟨A.be,0,none⟩))∧w1.cell? ⟨b1,0,none⟩=some (.pointer (some ⟨A.bt s,0,none⟩))∧w1.cell? ⟨b2,0,none⟩=some (zi (i:Int))∧w1.cell? ⟨b3,0,none⟩=some (.pointer (some ⟨A.bc s,0,none⟩))∧w1.cell? ⟨b4,0,none⟩=some (.func (.func 164) #[] #[.pointer (some ⟨b0,0,none⟩),.pointer (some ⟨b1,0,none⟩),.pointer (some ⟨b2,0,none⟩),.pointer (some ⟨b3,0,none⟩),.pointer (some ⟨b4,0,none⟩)])∧w1.cell? ⟨A.bc s,10,none⟩=some (.bool c.waits)∧w1.frozen? ⟨A.bc s,10,none⟩=false):=
  fun w1 q g=>⟨(B0.grow g).cell,(B1.grow g).cell,(B2.grow g).cell,(B3.grow g).cell,(B4.grow g).cell,q.call (s:=s) (c:=c) hc 10 rfl,q.callF (s:=s) (c:=c) hc 10⟩
 have hgd:t.bonds.getD i 0=bd:=by rw[List.getD_eq_getElem?_getD,hi];rfl
 have hrun:σ.run s (.wait i)=if stateOf (σ.word (σ.place bd))=3 then (σ.tick,some (waitK t (i+1))) else if stateOf (σ.word (σ.place bd))=4 then (σ.tick,some (.abort 14 4)) else (σ.tick.setC s {c with waits:=true},some (.wait i)):=by
  have e1:σ.t s=t:=txn_get ht;have e2:σ.tick.t s=t:=txn_get ht;have e3:σ.tick.c s=c:=call_get hc;simp only[St.run,e1,e2,e3,hgd]
 rw[hrun];have n1:IntKind.i64.wrap ((i:Int)+1)=(i:Int)+1:=by have:=(List.getElem?_eq_some_iff.1 hi).1;rw[IntKind.wrap_i64];omega
 have HAb:Hid (∀ w1,Rep A σ.tick w1→Calls Tryz.prog 97 #[.pointer (some ⟨A.be,0,none⟩),.pointer (some ⟨A.bt s,0,none⟩),.pointer (some ⟨A.bc s,0,none⟩),zi 14,zi 4] w1 (Tells A w1 s (σ.tick,.abort 14 4))):=fun w1 q=>abort_any q s 14 4
 have HWa:Hid (∀ w1,Rep A σ.tick w1→Calls Tryz.prog 144 #[.pointer (some ⟨A.be,0,none⟩),.pointer (some ⟨A.bt s,0,none⟩),.pointer (some ⟨A.bc s,0,none⟩),zi ((i:Int)+1)] w1 (Tells A w1 s (σ.tick,waitK t (i+1)))):=fun w1 q=>wait_any q s t ht (i+1)
 have HST:Hid (∀ w1,Rep A σ.tick w1→Grow A.L w A.L w1→∀ ws,w1.setCell ⟨A.bc s,10,none⟩ (.bool true)=ws→Rep A (σ.tick.setC s {c with waits:=true}) ws∧Grow A.L w A.L ws∧ws.cell? ⟨b4,0,none⟩=some (.func (.func 164) #[] #[.pointer (some ⟨b0,0,none⟩),.pointer (some ⟨b1,0,none⟩),.pointer (some ⟨b2,0,none⟩),.pointer (some ⟨b3,0,none⟩),.pointer (some ⟨b4,0,none⟩)])):=by
  rintro w1 q g ws rfl;obtain⟨r2,g2⟩:=q.setCall (s:=s) (c:=c) hc {c with waits:=true} 10 (.bool true) (by simp[callCs]) rfl;exact⟨r2,g.trans g2,(B4.grow (g.trans g2)).cell⟩
 have hkp:kp A (σ.tick.setC s {c with waits:=true}) s=kp A σ s:=by
  have e:(σ.tick.setC s {c with waits:=true}).c s={c with waits:=true}:=call_get (by rw[getC_set (σ:=σ.tick) (lt_of_call hc),if_pos rfl]);unfold kp;rw[e,call_get hc]
 have HKP:=zH hkp;clear hkp;have HX:=zH (zA B0 (zA B1 (zA B2 (zA B3 B4))));clear hR ht hc hi hil hid hpl hw hcnt B0 B1 B2 B3 B4 hown0 hj hv hgd hrun;generalize σ.word (σ.place bd)=x at*;generalize hst:stateOf x=st at*;generalize hen:endOf x=en at*;clear hst hen;generalize hbl:t.bonds.length=n at*
 by_cases h3:st=3
 · rw[if_pos h3]
   obtain⟨fc1,fc2,fc3,fc4,fc5⟩:=zeT (x:=st) (c:=3) (ci:=3) (by omega);clear h3;go_enter Tryz.func164,Tryz.ntmps164;go_wp2_with fail
   go_region_held3 (fun w'=>w'.cell? ⟨b0,0,none⟩=some (.pointer (some ⟨A.be,0,none⟩))∧w'.cell? ⟨b1,0,none⟩=some (.pointer (some ⟨A.bt s,0,none⟩))∧w'.cell? ⟨b2,0,none⟩=some (zi (i:Int))∧w'.cell? ⟨A.be,2,none⟩=some (.pointer (some ⟨A.ba,0,none⟩))∧w'.cell? ⟨A.bt s,9,none⟩=some (.slice (some ⟨g0,0,none⟩) n capv)∧w'.cell? ⟨g0,i,none⟩=some (zi (bd:Int)))
    (first|exact⟨c0,c1,c2,e2,h9,hg⟩|assumption|exact HKT.out _ (by assumption) (by assumption))
    (first|(go_at_call 48;refine HP.out.mono ?_;rintro e w' ⟨rfl,rfl⟩)|(go_at_call 42;refine HL.out.mono ?_;rintro e w1 ⟨rfl,q1,q2⟩;have q4:=HG.out.trans q2;have q3:=Stay.refl A s;clear q2)|(go_at_call 109;refine (HU.out _).mono ?_;rintro e w' ⟨rfl,rfl⟩))
   have HQ:=zH (zA (‹Rep A σ.tick _›) (‹Grow A.L w A.L _›));obtain⟨d0,d1,d2,d3,d4,d5,d6⟩:=HB.out _ HQ.out.1 HQ.out.2;go_wp2_with (go_at_call 144;refine (HWa.out _ HQ.out.1).mono ?_;rintro e w2 ⟨A2,v,rfl,p1,p2,p3,p4⟩);go_ret;exact⟨A2,v,rfl,p1,HQ.out.2.trans p2,p3,p4⟩
 · rw[if_neg h3]
   obtain⟨fc1,fc2,fc3,fc4,fc5⟩:=zeF (x:=st) (c:=3) (ci:=3) (by omega)
   by_cases h4:st=4
   · rw[if_pos h4]
     obtain⟨fd1,fd2,fd3,fd4,fd5⟩:=zeT (x:=st) (c:=4) (ci:=4) (by omega);clear h3 h4;go_enter Tryz.func164,Tryz.ntmps164;go_wp2_with fail
     go_region_held3 (fun w'=>w'.cell? ⟨b0,0,none⟩=some (.pointer (some ⟨A.be,0,none⟩))∧w'.cell? ⟨b1,0,none⟩=some (.pointer (some ⟨A.bt s,0,none⟩))∧w'.cell? ⟨b2,0,none⟩=some (zi (i:Int))∧w'.cell? ⟨A.be,2,none⟩=some (.pointer (some ⟨A.ba,0,none⟩))∧w'.cell? ⟨A.bt s,9,none⟩=some (.slice (some ⟨g0,0,none⟩) n capv)∧w'.cell? ⟨g0,i,none⟩=some (zi (bd:Int)))
      (first|exact⟨c0,c1,c2,e2,h9,hg⟩|assumption|exact HKT.out _ (by assumption) (by assumption))
      (first|(go_at_call 48;refine HP.out.mono ?_;rintro e w' ⟨rfl,rfl⟩)|(go_at_call 42;refine HL.out.mono ?_;rintro e w1 ⟨rfl,q1,q2⟩;have q4:=HG.out.trans q2;have q3:=Stay.refl A s;clear q2)|(go_at_call 109;refine (HU.out _).mono ?_;rintro e w' ⟨rfl,rfl⟩))
     have HQ:=zH (zA (‹Rep A σ.tick _›) (‹Grow A.L w A.L _›));obtain⟨d0,d1,d2,d3,d4,d5,d6⟩:=HB.out _ HQ.out.1 HQ.out.2;go_wp2_with (go_at_call 97;refine (HAb.out _ HQ.out.1).mono ?_;rintro e w2 ⟨A2,v,rfl,p1,p2,p3,p4⟩);go_ret;exact⟨A2,v,rfl,p1,HQ.out.2.trans p2,p3,p4⟩
   · rw[if_neg h4]
     obtain⟨fd1,fd2,fd3,fd4,fd5⟩:=zeF (x:=st) (c:=4) (ci:=4) (by omega);clear h3 h4;go_enter Tryz.func164,Tryz.ntmps164;go_wp2_with fail
     go_region_held3 (fun w'=>w'.cell? ⟨b0,0,none⟩=some (.pointer (some ⟨A.be,0,none⟩))∧w'.cell? ⟨b1,0,none⟩=some (.pointer (some ⟨A.bt s,0,none⟩))∧w'.cell? ⟨b2,0,none⟩=some (zi (i:Int))∧w'.cell? ⟨A.be,2,none⟩=some (.pointer (some ⟨A.ba,0,none⟩))∧w'.cell? ⟨A.bt s,9,none⟩=some (.slice (some ⟨g0,0,none⟩) n capv)∧w'.cell? ⟨g0,i,none⟩=some (zi (bd:Int)))
      (first|exact⟨c0,c1,c2,e2,h9,hg⟩|assumption|exact HKT.out _ (by assumption) (by assumption))
      (first|(go_at_call 48;refine HP.out.mono ?_;rintro e w' ⟨rfl,rfl⟩)|(go_at_call 42;refine HL.out.mono ?_;rintro e w1 ⟨rfl,q1,q2⟩;have q4:=HG.out.trans q2;have q3:=Stay.refl A s;clear q2)|(go_at_call 109;refine (HU.out _).mono ?_;rintro e w' ⟨rfl,rfl⟩))
     have HQ:=zH (zA (‹Rep A σ.tick _›) (‹Grow A.L w A.L _›));obtain⟨d0,d1,d2,d3,d4,d5,d6⟩:=HB.out _ HQ.out.1 HQ.out.2;go_wp2_with fail;generalize hws:World.setCell _ _ _=ws;obtain⟨r2,g2,d7⟩:=HST.out _ HQ.out.1 HQ.out.2 ws hws;have HZ:=zH (zA r2 g2);clear d0 d1 d2 d3 d4 d5 d6 r2 g2 hws;go_wp2_with fail;go_ret;obtain⟨B0,B1,B2,B3,B4⟩:=HX.out;obtain⟨r2,g2⟩:=HZ.out;refine⟨A,_,rfl,r2,g2,Stay.refl _ _,?_⟩;show KRep (kp A _ s) _ _ _ _;rw[HKP.out];exact⟨_,_,_,_,_,rfl,B0.grow g2,B1.grow g2,B2.grow g2,B3.grow g2,B4.grow g2⟩
end Go.Proofs.YthicolbbmjfkfaaGreat.Em
