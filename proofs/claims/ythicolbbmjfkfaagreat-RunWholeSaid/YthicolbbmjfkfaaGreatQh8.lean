import Derived.Test.YthicolbbmjfkfaaGreatQh6
set_option linter.unusedVariables false
set_option linter.unusedSimpArgs false
set_option maxRecDepth 100000
set_option maxHeartbeats 1600000
namespace Go.Proofs.YthicolbbmjfkfaaGreat.Em
open Go.ChangeShapes Go.WideShapes Go.ChangeAt Go.RowKit En
def QL (A:au) (w:World) (bE:St):Ending->World->Prop:=fun e G=>(∃ z:Int,e=.returned (I z))∧∃ A',om A A'∧aD A' bE G∧Grow A.L w A'.L G
theorem Gl {D:St} {F:Nat} (h:D.jw F=false):D.give F=D:=by unfold St.give;rw[h];rfl
theorem EC {D:St} {F:Nat} (h:D.jw F=true) (ht:(D.tags.getD (aj F) (0,false)).1=65535):D.give F={D with tags:=D.tags.set (aj F) ((D.tags.getD (aj F) (0,false)).1,false),iA:=D.iA+1}:=by
 unfold St.give;rw[h];simp only[aV,ht]
theorem Jq {D:St} {F:Nat} (h:D.jw F=true) (ht:(D.tags.getD (aj F) (0,false)).1≠65535):D.give F={D with tags:=D.tags.set (aj F) ((D.tags.getD (aj F) (0,false)).1+1,false),free:=D.free++[aj F]}:=by
 unfold St.give;rw[h];simp only[aV,aX ht]
theorem Gm {A:au} {D:St} {w:World} (hR:aD A D w) (F:Nat) (hv:VL D F) (hp:iL D):
 zk 100 #[R A.bp 0,zu F] w (QL A w (D.give F)):=by
 have hi:=iw hv;have hlv:=Gh hR F hv hp.tag
 cases hlive:D.jw F with
 |false=>
  rw[Gl hlive];rw[hlive] at hlv;have HL:=U hlv;have HR:=U hR;clear hlv hR hv hp hi hlive;go_enter Tryz.func100,Tryz.ntmps100;go_wp2_with (go_at_call 134;refine HL.out.mono ?_;rintro e G ⟨rfl,rfl⟩);go_ret;exact⟨⟨_,rfl⟩,A,⟨_,_,rfl⟩,HR.out,Grow.refl _ _⟩
 |true=>
  rw[hlive] at hlv;have hu:=Word.mW (F:Int) (by omega) (by have:=hv.u;omega) w;rw[<-nY hv.lo] at hu;have p0:w.cell? (J A.bp 0)=some (.slice (some (J A.bs 0)) D.aC D.aC):=hR.bK 0 rfl;have b0:(0:Int)<=(aj F:Int):=by omega
  have b1:(aj F:Int)<(D.aC:Int):=by omega
  have t1:=(hR.tag hi).2;have z1:=hR.LB (2*aj F+1);rw[Nat.mul_comm 2] at t1 z1;obtain⟨r1,g1⟩:=hR.zD hi false;rw[Nat.mul_comm 2] at r1 g1;have i0:=(r1.tag (i:=aj F) hi).1;rw[Nat.mul_comm 2] at i0;have hsl:=hR.sl;have Gn:((D.tags.set (aj F) ((D.tags.getD (aj F) (0,false)).1,false)).getD (aj F) (0,false))=((D.tags.getD (aj F) (0,false)).1,false):=by
   rw[jy _ _ _ _ _ (by rw[hR.nt];exact hi),aV rfl]
  rw[Gn] at i0;have q1:=r1.bK 1 (v:=I 65535) rfl;have q3:=r1.bK 3 (v:=I (D.iA:Int)) rfl;have z3:=r1.tL 3
  by_cases Gf:(D.tags.getD (aj F) (0,false)).1=65535
  . rw[EC hlive Gf]
    rw[Gf] at i0;have Jr:IntKind.i64.wrap ((D.iA:Int)+1)=(D.iA:Int)+1:=by have:=hp.iA;rw[jH];omega
    have HU:=U hu;have HL:=U hlv;have HR:=U (zA r1 g1);clear hu hlv hR hv hp hi hlive r1 g1 hsl Gn Gf;go_enter Tryz.func100,Tryz.ntmps100;go_wp2_with (first|(go_at_call 134;refine HL.out.mono ?_;rintro e G ⟨rfl,rfl⟩)|(go_at_call 107;refine HU.out.mono ?_;rintro e G ⟨rfl,rfl⟩));generalize hw1:w.setCell ⟨A.bs,aj F*2+1,none⟩ (.bool false)=H at*
    go_quiet (fail)
    generalize hw2:H.drewN _=w2;obtain⟨r1,g1⟩:=HR.out;have r2:aD A {D with tags:=D.tags.set (aj F) ((D.tags.getD (aj F) (0,false)).1,false)} w2:=by rw[<-hw2];exact r1.drewN _
    have g2:Grow A.L w A.L w2:=by rw[<-hw2];exact g1.trans (Grow.drewN _ _ _)
    have q3:=r2.bK 3 (v:=I (D.iA:Int)) rfl;have z3:=r2.tL 3;obtain⟨r3,g3⟩:=r2.I5 (D.iA+1);rw[show ((D.iA+1:Nat):Int)=(D.iA:Int)+1 from rfl] at r3 g3;have HQ:=U (zA r3 (g2.trans g3));clear r1 g1 r2 g2 r3 g3 hw2;go_wp2_with fail;go_ret;exact⟨⟨_,rfl⟩,A,⟨_,_,rfl⟩,HQ.out.1,HQ.out.2⟩
  . rw[Jq hlive Gf]
    have htl:=hp.tag _ hi;have hfl:=hp.n;have el:(D.tags.set (aj F) ((D.tags.getD (aj F) (0,false)).1,false)).set (aj F) ((D.tags.getD (aj F) (0,false)).1+1,((D.tags.set (aj F) ((D.tags.getD (aj F) (0,false)).1,false)).getD (aj F) (0,false)).2)=D.tags.set (aj F) ((D.tags.getD (aj F) (0,false)).1+1,false):=by rw[Gn,List.set_set]
    have NEXT : Hid (∀ w2, aD A { D with tags := D.tags.set (aj F) ((D.tags.getD (aj F) (0, false)).1, false) } w2 -> w2.cell? ⟨A.bs, aj F * 2, none⟩ = some (I ((D.tags.getD (aj F) (0, false)).1 : Int)) ∧ w2.frozen? ⟨A.bs, aj F * 2, none⟩ = false ∧
        aD A {D with tags:=D.tags.set (aj F) ((D.tags.getD (aj F) (0,false)).1+1,false)} (w2.setCell ⟨A.bs,aj F*2,none⟩ (I (((D.tags.getD (aj F) (0,false)).1:Int)+1)))∧Grow A.L w2 A.L (w2.setCell ⟨A.bs,aj F*2,none⟩ (I (((D.tags.getD (aj F) (0,false)).1:Int)+1)))):=by
     rw[Nat.mul_comm (aj F) 2];intro w2 r2;have a1:=(r2.tag (i:=aj F) hi).1;rw[show (({D with tags:=D.tags.set (aj F) ((D.tags.getD (aj F) (0,false)).1,false)}:St).tags.getD (aj F) (0,false))=_ from Gn] at a1;obtain⟨r3,g3⟩:=r2.LC hi ((D.tags.getD (aj F) (0,false)).1+1);refine⟨a1,r2.LB _,?_,g3⟩;have r3':=r3;rw[show ({({D with tags:=D.tags.set (aj F) ((D.tags.getD (aj F) (0,false)).1,false)}:St) with tags:=({D with tags:=D.tags.set (aj F) ((D.tags.getD (aj F) (0,false)).1,false)}:St).tags.set (aj F) ((D.tags.getD (aj F) (0,false)).1+1,(({D with tags:=D.tags.set (aj F) ((D.tags.getD (aj F) (0,false)).1,false)}:St).tags.getD (aj F) (0,false)).2)}:St)={D with tags:=D.tags.set (aj F) ((D.tags.getD (aj F) (0,false)).1+1,false)} by simp only[el]] at r3';exact r3'
    clear el Gn;generalize (D.tags.getD (aj F) (0,false)).1=tg at*;have d1:((tg:Int)==65535)=false:=by simp;omega
    have d2:((tg:Int)=65535)=False:=by simp;omega
    have d3:IntKind.i64.wrap ((tg:Int)+1)=(tg:Int)+1:=by rw[jH];omega
    have HU:=U hu;have HL:=U hlv;have HR:=U (zA r1 g1);have HN:=U hfl;clear hu hlv hR hv hp hi hlive r1 g1 hsl Gf htl hfl;go_enter Tryz.func100,Tryz.ntmps100;go_wp2_with (first|(go_at_call 134;refine HL.out.mono ?_;rintro e G ⟨rfl,rfl⟩)|(go_at_call 107;refine HU.out.mono ?_;rintro e G ⟨rfl,rfl⟩));generalize hw1:w.setCell ⟨A.bs,aj F*2+1,none⟩ (.bool false)=H at*
    go_quiet (fail)
    generalize hw2:H.drewN _=w2;obtain⟨r1,g1⟩:=HR.out;have r2:aD A {D with tags:=D.tags.set (aj F) (tg,false)} w2:=by rw[<-hw2];exact r1.drewN _
    have g2:Grow A.L w A.L w2:=by rw[<-hw2];exact g1.trans (Grow.drewN _ _ _)
    obtain⟨a1,a2,r3,g3⟩:=NEXT.out w2 r2;have g4:=g2.trans g3;obtain⟨av,iJ,hv,hstep⟩:=wM r3 (aj F);obtain⟨r5,g5,_⟩:=cB r3 #[I (aj F)] 3;have p2:=r3.bK 2 (v:=A.eO) rfl;have aS:=mF r5;rw[hv] at p2 aS;have HS:=U hstep;have HV:=U hv;have HO:=U aS;have HQ:=U g4;clear r1 g1 r2 g2 r3 g3 g4 hw2 hv aS hstep r5 g5;obtain⟨ii,hii,hz0,hz1,hz2⟩:=info_parts zP;have hsz:∀ a u,(w2.setCell a u).heap.size=w2.heap.size:=fun a u=>by simp[World.setCell]
    have HZ:=U hsz;clear hsz;go_wp2_with (refine Ow.dH _ rfl (.tmp 55) (.tmp 57) 36 rfl 0 _ ii _ 1 8 Tryz.underlying36 hii hz0 hz1 hz2 rfl (by decide) (.slice av D.free.length iJ) D.free.length (D.free.map i64) rfl HO.out (J w2.heap.size 0) 1 1 (by omega) [I (aj F)] rfl rfl (by intro j' u hu;rw[<-HZ.out ⟨A.bs,aj F*2,none⟩ (I ((tg:Int)+1))];exact Ow.iF _ [I (aj F)] _ _ rfl j' u hu) (by intro u hu;obtain rfl:=List.mem_singleton.1 hu;rfl) (by have:=HN.out;unfold maxLen;omega) (by have:=HN.out;omega) (zz _) ?_;intro v' w4 q1 q2 q3;obtain⟨k1,k2,k3,_⟩:=HS.out v' w4 q1 (by rw[HV.out];exact q2) (by rw[HV.out];exact q3);obtain⟨a4,cap4,rfl,_⟩:=Ow.bD q1;have K1:=U k1;clear k1 q1 q2 q3);go_ret;obtain⟨A2,h1,h2,h3⟩:=K1.out;exact⟨⟨_,rfl⟩,A2,h1,h2,HQ.out.trans h3⟩
theorem Ab {A:au} {D:St} {w:World} (hR:aD A D w) (s:Nat) (F:Nat) (hv0:F=0∨VL D F) (hp:iL D):
 zk 174 #[R A.Y 0,R (A.bt s) 0,R (A.bc s) 0,zu F] w (aZ A w s (D.lost F)):=by
 by_cases h0:F=0
 . have e:D.lost F=(D,.abort 14 2):=by unfold St.lost;rw[aX (by simpa using h0)]
   rw[e];have d1:((F:Int) !=0)=false:=by simpa using h0
   have d2:((F:Int)=0)=True:=by simpa using h0
   have d3:((F:Int)==0)=true:=by simpa using h0
   have HA:=U (iP hR s 14 2);clear hR hv0 hp h0 e;go_enter Tryz.func174,Tryz.ntmps174;go_wp2_with (go_at_call 97;refine HA.out.mono ?_;rintro e w2 ⟨A2,v,rfl,p1,p2,p3,p4⟩);go_ret;exact⟨A2,v,rfl,p1,p2,p3,p4⟩
 . have hv:=hv0.resolve_left h0
   have e:D.lost F=(D.give F,.abort 14 2):=by unfold St.lost;rw[aV (by simpa using h0)]
   rw[e];have d1:((F:Int) !=0)=true:=by simpa using h0
   have d2:((F:Int)=0)=False:=by simpa using h0
   have d3:((F:Int)==0)=false:=by simpa using h0
   have e3:=hR.eH 3 (v:=R A.bp 0) rfl;have HG:=U (Gm hR F hv hp);clear hR hv0 hv hp h0 e;generalize D.give F=aH at*;go_enter Tryz.func174,Tryz.ntmps174;go_wp2_with (first|(go_at_call 100;refine HG.out.mono ?_;rintro e H ⟨⟨z,rfl⟩,A1,⟨L1,v1,rfl⟩,q1,q2⟩;have HA:=U (iP q1 s 14 2);have HQ:=U q2;clear q1 q2)|(go_at_call 97;refine HA.out.mono ?_;rintro e w2 ⟨A2,v,rfl,p1,p2,p3,p4⟩));go_ret;have hst:bL A {A with L:=L1,eO:=v1} s:=⟨rfl,rfl,rfl,rfl,rfl,rfl,rfl,rfl,rfl,rfl,rfl,fun _ _=>rfl,fun _ _=>rfl⟩
   exact⟨A2,v,rfl,p1,HQ.out.trans p2,hst.trans p3,p4⟩
variable {A:au} {D:St} {w:World}
theorem fB (h:aD A D w) (id:Nat) (hid:id<=65535):
 zk 48 #[R A.Y 0,I id] w fun e G=>e=.returned (I ((D.place id:Nat):Int))∧G=w:=flip (wI h id hid)
theorem ED (hR:aD A D w) (s:Nat) (t:bB) (ht:D.ag.getD s none=some t) (F head at_ id:Nat) (hv0:F=0∨VL D F) (hid:id<=65535) (hpl:D.place id<D.words.length) (hw:D.word (D.place id)<18446744073709551616) (hp:iL D) (aQ:D.count<4000000000000000000)
 (b0 b1 b2 b3 b4 b5:Nat) (B0:aK A.L w b0 (R A.Y 0)) (B1:kr A.L w b1 id) (B2:aK A.L w b2 (R (A.bt s) 0)) (B3:jX (kp A D s) A.L w b3 F head at_) (B4:aK A.L w b4 (R (A.bc s) 0)) (B5:aK A.L w b5 (zu F)):
 zk 175 #[R b0 0,R b1 0,R b2 0,R b3 0,R b4 0,R b5 0] w (jO A w s (D.run s (.dB F head at_ id))):=by
 obtain⟨_,S1⟩:=B1;obtain⟨nv,X3,m0,m1,m2,m3,m4,m5,QM,N0,N1,N2,N3,N4,N5⟩:=B3;have c0:=B0.cell;have c1:=S1.cell 1 (v:=zu id) rfl;have e2:=hR.z2;have HP:=U (fB hR.drew id hid);have HL:=U (gM hR.drew (D.place id) hpl aQ);have HU:=U (fun G=>jN (D.word (D.place id)) hw G);have n1:IntKind.i64.wrap (id:Int)=(id:Int):=by rw[jH];omega
 have HG:=zG A.L w;have HK:Hid (∀ G,Kp A w G->zS G b0 0 A.Y 0∧zV G b1 1 id∧zS G A.Y 2 A.ba 0):=by
  obtain⟨_,x0⟩:=B0;exact fun G k=>⟨k.fix _ _ _ x0.1 c0,k.fix _ _ _ S1.1 c1,k.ea⟩
 have HB : Hid (∀ H, aD A D.tick H -> Grow A.L w A.L H -> zS H b0 0 A.Y 0 ∧ zS H b2 0 (A.bt s) 0 ∧ H.cell? (J b3 0) = some nv ∧ zS H b4 0 (A.bc s) 0 ∧ zV H b5 0 (F : Int) ∧ zV H (A.bt s) 3 (t.aG : Int) ∧
     (∀ H,aD A D.tick H->zk 174 #[R A.Y 0,R (A.bt s) 0,R (A.bc s) 0,zu F] H (aZ A H s (D.tick.lost F)))):=by
  intro H q1 q2;have g:=q2;exact⟨(B0.grow g).cell,(B2.grow g).cell,(X3.grow g).cell,(B4.grow g).cell,(B5.grow g).cell,q1.dZ ht 3 rfl,fun w3 q3=>Ab q3 s F (hv0.imp (fun h=>h) fun h=>⟨h.lo,h.hi,h.u⟩) ⟨hp.n,hp.free,hp.tag,hp.iA⟩⟩
 have HN:=U (zA N0 (zA N1 (zA N2 (zA N3 (zA N4 N5)))));have aN:D.run s (.dB F head at_ id)=if bA (D.word (D.place id))=4∨(0<gD (D.word (D.place id))∧gD (D.word (D.place id))<=t.aG) then (D.tick,some (.next F head at_)) else ((D.tick.lost F).1,some (D.tick.lost F).2):=by
  have e:(D.tick.t s)=t:=bQ ht;simp only[St.run,e]
 rw[aN];clear hR ht hv0 hid hpl hw hp aQ B0 S1 B2 X3 B4 B5 N0 N1 N2 N3 N4 N5 aN;subst QM;generalize D.word (D.place id)=x at*;generalize hst:bA x=st at*;generalize hen:gD x=en at*;generalize t.aG=bg at*;clear hst hen
 by_cases h4:st=4
 . rw[aV (Or.inl h4)]
   subst h4;go_enter Tryz.func175,Tryz.ntmps175;go_wp2_with fail
   go_region_held3 (fun G=>zS G b0 0 A.Y 0∧zV G b1 1 id∧zS G A.Y 2 A.ba 0)
    (first|exact⟨c0,c1,e2⟩|assumption|exact HK.out _ (Kp.of (by assumption) (by assumption) (by assumption)))
    (first|(go_at_call 48;refine HP.out.mono ?_;rintro e G ⟨rfl,rfl⟩)|(go_at_call 42;refine HL.out.mono ?_;rintro e H ⟨rfl,q1,q2⟩;have q4:=HG.out.trans q2;have q3:=bL.refl A s;clear q2)|(go_at_call 109;refine (HU.out _).mono ?_;rintro e G ⟨rfl,rfl⟩))
   obtain⟨d0,d2,d3,d4,d5,d6,V⟩:=HB.out _ (by assumption) (by assumption);have HQ:=U (zA (‹aD A D.tick _›) (zA (‹Grow A.L w A.L _›) V));clear V;go_wp2_with fail;go_ret;obtain⟨q1,g1,_⟩:=HQ.out;exact⟨A,_,rfl,q1,g1,bL.refl _ _,_,_,_,_,_,_,rfl,(HN.out.1).grow g1,(HN.out.2.1).grow g1,(HN.out.2.2.1).grow g1,(HN.out.2.2.2.1).grow g1,(HN.out.2.2.2.2.1).grow g1,(HN.out.2.2.2.2.2).grow g1⟩
 . have a1:((st:Int)==4)=false:=by simp;omega
   have a2:((st:Int)=4)=False:=by simp;omega
   by_cases h0:en=0
   . rw[aX (by omega)]
     have a3:decide ((0:Int)<(en:Int))=false:=by simp;omega
     have a4:((0:Int)<(en:Int))=False:=by simp;omega
     have Uo:(0<en)=False:=by simp;omega
     clear h4 h0;go_enter Tryz.func175,Tryz.ntmps175;go_wp2_with fail
     go_region_held3 (fun G=>zS G b0 0 A.Y 0∧zV G b1 1 id∧zS G A.Y 2 A.ba 0)
      (first|exact⟨c0,c1,e2⟩|assumption|exact HK.out _ (Kp.of (by assumption) (by assumption) (by assumption)))
      (first|(go_at_call 48;refine HP.out.mono ?_;rintro e G ⟨rfl,rfl⟩)|(go_at_call 42;refine HL.out.mono ?_;rintro e H ⟨rfl,q1,q2⟩;have q4:=HG.out.trans q2;have q3:=bL.refl A s;clear q2)|(go_at_call 109;refine (HU.out _).mono ?_;rintro e G ⟨rfl,rfl⟩))
     obtain⟨d0,d2,d3,d4,d5,d6,V⟩:=HB.out _ (by assumption) (by assumption);have HQ:=U (zA (‹aD A D.tick _›) (zA (‹Grow A.L w A.L _›) V));clear V;go_wp2_with (go_at_call 174;refine (HQ.out.2.2 _ HQ.out.1).mono ?_;rintro e w2 ⟨A2,v,rfl,p1,p2,p3,p4⟩);go_ret;exact⟨A2,v,rfl,p1,HQ.out.2.1.trans p2,p3,p4⟩
   . have a3:decide ((0:Int)<(en:Int))=true:=by simp;omega
     have a4:((0:Int)<(en:Int))=True:=by simp;omega
     have Uo:(0<en)=True:=by simp;omega
     by_cases Z:en<=bg
     . rw[aV (by omega)]
       have a5:decide ((en:Int)<=(bg:Int))=true:=by simp;omega
       have a6:((en:Int)<=(bg:Int))=True:=by simp;omega
       have Uq:(en<=bg)=True:=by simp;omega
       clear h4 h0 Z;go_enter Tryz.func175,Tryz.ntmps175;go_wp2_with fail
       go_region_held3 (fun G=>zS G b0 0 A.Y 0∧zV G b1 1 id∧zS G A.Y 2 A.ba 0)
        (first|exact⟨c0,c1,e2⟩|assumption|exact HK.out _ (Kp.of (by assumption) (by assumption) (by assumption)))
        (first|(go_at_call 48;refine HP.out.mono ?_;rintro e G ⟨rfl,rfl⟩)|(go_at_call 42;refine HL.out.mono ?_;rintro e H ⟨rfl,q1,q2⟩;have q4:=HG.out.trans q2;have q3:=bL.refl A s;clear q2)|(go_at_call 109;refine (HU.out _).mono ?_;rintro e G ⟨rfl,rfl⟩))
       obtain⟨d0,d2,d3,d4,d5,d6,V⟩:=HB.out _ (by assumption) (by assumption);have HQ:=U (zA (‹aD A D.tick _›) (zA (‹Grow A.L w A.L _›) V));clear V;go_wp2_with fail;go_ret;obtain⟨q1,g1,_⟩:=HQ.out;exact⟨A,_,rfl,q1,g1,bL.refl _ _,_,_,_,_,_,_,rfl,(HN.out.1).grow g1,(HN.out.2.1).grow g1,(HN.out.2.2.1).grow g1,(HN.out.2.2.2.1).grow g1,(HN.out.2.2.2.2.1).grow g1,(HN.out.2.2.2.2.2).grow g1⟩
     . rw[aX (by omega)]
       have a5:decide ((en:Int)<=(bg:Int))=false:=by simp;omega
       have a6:((en:Int)<=(bg:Int))=False:=by simp;omega
       have Uq:(en<=bg)=False:=by simp;omega
       clear h4 h0 Z;go_enter Tryz.func175,Tryz.ntmps175;go_wp2_with fail
       go_region_held3 (fun G=>zS G b0 0 A.Y 0∧zV G b1 1 id∧zS G A.Y 2 A.ba 0)
        (first|exact⟨c0,c1,e2⟩|assumption|exact HK.out _ (Kp.of (by assumption) (by assumption) (by assumption)))
        (first|(go_at_call 48;refine HP.out.mono ?_;rintro e G ⟨rfl,rfl⟩)|(go_at_call 42;refine HL.out.mono ?_;rintro e H ⟨rfl,q1,q2⟩;have q4:=HG.out.trans q2;have q3:=bL.refl A s;clear q2)|(go_at_call 109;refine (HU.out _).mono ?_;rintro e G ⟨rfl,rfl⟩))
       obtain⟨d0,d2,d3,d4,d5,d6,V⟩:=HB.out _ (by assumption) (by assumption);have HQ:=U (zA (‹aD A D.tick _›) (zA (‹Grow A.L w A.L _›) V));clear V;go_wp2_with (go_at_call 174;refine (HQ.out.2.2 _ HQ.out.1).mono ?_;rintro e w2 ⟨A2,v,rfl,p1,p2,p3,p4⟩);go_ret;exact⟨A2,v,rfl,p1,HQ.out.2.1.trans p2,p3,p4⟩
end Go.Proofs.YthicolbbmjfkfaaGreat.Em
