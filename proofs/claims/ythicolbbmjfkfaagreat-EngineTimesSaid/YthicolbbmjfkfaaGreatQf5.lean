import Derived.Test.YthicolbbmjfkfaaGreatQf4
set_option linter.unusedVariables false
set_option linter.unusedSimpArgs false
set_option maxRecDepth 100000
set_option maxHeartbeats 1600000
namespace Go.Proofs.YthicolbbmjfkfaaGreat.Em
open Go.ChangeShapes Go.WideShapes Go.ChangeAt Go.RowKit En
def U2 (A:az) (w:World) (bF:St):Ending->World->Prop:=fun e E=>(∃ z:Int,e=.returned (I z))∧∃ A',oG A A'∧aF A' bF E∧Grow A.L w A'.L E
theorem Kg {D:St} {G:Nat} (h:D.kJ G=false):D.give G=D:=by unfold St.give;rw[h];rfl
theorem Iy {D:St} {G:Nat} (h:D.kJ G=true) (ht:(D.tags.getD (ag G) (0,false)).1=65535):D.give G={D with tags:=D.tags.set (ag G) ((D.tags.getD (ag G) (0,false)).1,false),jh:=D.jh+1}:=by
 unfold St.give;rw[h];simp only[aW,ht]
theorem Ny {D:St} {G:Nat} (h:D.kJ G=true) (ht:(D.tags.getD (ag G) (0,false)).1≠65535):D.give G={D with tags:=D.tags.set (ag G) ((D.tags.getD (ag G) (0,false)).1+1,false),free:=D.free++[ag G]}:=by
 unfold St.give;rw[h];simp only[aW,bu ht]
theorem CJ {A:az} {D:St} {w:World} (hR:aF A D w) (G:Nat) (hv:VL D G) (hp:iY D):
 zk 100 #[R A.bp 0,zu G] w (U2 A w (D.give G)):=by
 have hi:=iO hv;have hlv:=Kc hR G hv hp.tag
 cases hlive:D.kJ G with
 |false=>
  rw[Kg hlive];rw[hlive] at hlv;have HL:=U hlv;have HR:=U hR;clear hlv hR hv hp hi hlive;go_enter Tryz.func100,Tryz.ntmps100;go_wp2_with (go_at_call 134;refine HL.out.mono ?_;rintro e E ⟨rfl,rfl⟩);go_ret;exact⟨⟨_,rfl⟩,A,⟨_,_,rfl⟩,HR.out,Grow.refl _ _⟩
 |true=>
  rw[hlive] at hlv;have hu:=Word.oW (G:Int) (by omega) (by have:=hv.u;omega) w;rw[<-qf hv.lo] at hu;have p0:w.cell? (J A.bp 0)=some (.slice (some (J A.bs 0)) D.aG D.aG):=hR.bP 0 rfl;have b0:(0:Int)<=(ag G:Int):=by omega
  have b1:(ag G:Int)<(D.aG:Int):=by omega
  have t1:=(hR.tag hi).2;have z1:=hR.Qc (2*ag G+1);rw[Nat.mul_comm 2] at t1 z1;obtain⟨r1,g1⟩:=hR.Ch hi false;rw[Nat.mul_comm 2] at r1 g1;have i0:=(r1.tag (i:=ag G) hi).1;rw[Nat.mul_comm 2] at i0;have hsl:=hR.sl;have Kh:((D.tags.set (ag G) ((D.tags.getD (ag G) (0,false)).1,false)).getD (ag G) (0,false))=((D.tags.getD (ag G) (0,false)).1,false):=by
   rw[kL _ _ _ _ _ (by rw[hR.nt];exact hi),aW rfl]
  rw[Kh] at i0;have q1:=r1.bP 1 (v:=I 65535) rfl;have q3:=r1.bP 3 (v:=I (D.jh:Int)) rfl;have z3:=r1.vR 3
  by_cases J9:(D.tags.getD (ag G) (0,false)).1=65535
  . rw[Iy hlive J9]
    rw[J9] at i0;have Iz:IntKind.i64.wrap ((D.jh:Int)+1)=(D.jh:Int)+1:=by have:=hp.jh;rw[je];omega
    have HU:=U hu;have HL:=U hlv;have HR:=U (zA r1 g1);clear hu hlv hR hv hp hi hlive r1 g1 hsl Kh J9;go_enter Tryz.func100,Tryz.ntmps100;go_wp2_with (first|(go_at_call 134;refine HL.out.mono ?_;rintro e E ⟨rfl,rfl⟩)|(go_at_call 107;refine HU.out.mono ?_;rintro e E ⟨rfl,rfl⟩));generalize hw1:w.setCell ⟨A.bs,ag G*2+1,none⟩ (.bool false)=H at*
    go_quiet (fail)
    generalize hw2:H.drewN _=w2;obtain⟨r1,g1⟩:=HR.out;have r2:aF A {D with tags:=D.tags.set (ag G) ((D.tags.getD (ag G) (0,false)).1,false)} w2:=by rw[<-hw2];exact r1.drewN _
    have g2:Grow A.L w A.L w2:=by rw[<-hw2];exact g1.trans (Grow.drewN _ _ _)
    have q3:=r2.bP 3 (v:=I (D.jh:Int)) rfl;have z3:=r2.vR 3;obtain⟨r3,g3⟩:=r2.Nb (D.jh+1);rw[show ((D.jh+1:Nat):Int)=(D.jh:Int)+1 from rfl] at r3 g3;have HQ:=U (zA r3 (g2.trans g3));clear r1 g1 r2 g2 r3 g3 hw2;go_wp2_with fail;go_ret;exact⟨⟨_,rfl⟩,A,⟨_,_,rfl⟩,HQ.out.1,HQ.out.2⟩
  . rw[Ny hlive J9]
    have htl:=hp.tag _ hi;have hfl:=hp.n;have el:(D.tags.set (ag G) ((D.tags.getD (ag G) (0,false)).1,false)).set (ag G) ((D.tags.getD (ag G) (0,false)).1+1,((D.tags.set (ag G) ((D.tags.getD (ag G) (0,false)).1,false)).getD (ag G) (0,false)).2)=D.tags.set (ag G) ((D.tags.getD (ag G) (0,false)).1+1,false):=by rw[Kh,List.set_set]
    have NEXT : Hid (∀ w2, aF A { D with tags := D.tags.set (ag G) ((D.tags.getD (ag G) (0, false)).1, false) } w2 -> w2.cell? ⟨A.bs, ag G * 2, none⟩ = some (I ((D.tags.getD (ag G) (0, false)).1 : Int)) ∧ w2.frozen? ⟨A.bs, ag G * 2, none⟩ = false ∧
        aF A {D with tags:=D.tags.set (ag G) ((D.tags.getD (ag G) (0,false)).1+1,false)} (w2.setCell ⟨A.bs,ag G*2,none⟩ (I (((D.tags.getD (ag G) (0,false)).1:Int)+1)))∧Grow A.L w2 A.L (w2.setCell ⟨A.bs,ag G*2,none⟩ (I (((D.tags.getD (ag G) (0,false)).1:Int)+1)))):=by
     rw[Nat.mul_comm (ag G) 2];intro w2 r2;have a1:=(r2.tag (i:=ag G) hi).1;rw[show (({D with tags:=D.tags.set (ag G) ((D.tags.getD (ag G) (0,false)).1,false)}:St).tags.getD (ag G) (0,false))=_ from Kh] at a1;obtain⟨r3,g3⟩:=r2.Qd hi ((D.tags.getD (ag G) (0,false)).1+1);refine⟨a1,r2.Qc _,?_,g3⟩;have r3':=r3;rw[show ({({D with tags:=D.tags.set (ag G) ((D.tags.getD (ag G) (0,false)).1,false)}:St) with tags:=({D with tags:=D.tags.set (ag G) ((D.tags.getD (ag G) (0,false)).1,false)}:St).tags.set (ag G) ((D.tags.getD (ag G) (0,false)).1+1,(({D with tags:=D.tags.set (ag G) ((D.tags.getD (ag G) (0,false)).1,false)}:St).tags.getD (ag G) (0,false)).2)}:St)={D with tags:=D.tags.set (ag G) ((D.tags.getD (ag G) (0,false)).1+1,false)} by simp only[el]] at r3';exact r3'
    clear el Kh;generalize (D.tags.getD (ag G) (0,false)).1=tg at*;have d1:((tg:Int)==65535)=false:=by simp;omega
    have d2:((tg:Int)=65535)=False:=by simp;omega
    have d3:IntKind.i64.wrap ((tg:Int)+1)=(tg:Int)+1:=by rw[je];omega
    have HU:=U hu;have HL:=U hlv;have HR:=U (zA r1 g1);have HN:=U hfl;clear hu hlv hR hv hp hi hlive r1 g1 hsl J9 htl hfl;go_enter Tryz.func100,Tryz.ntmps100;go_wp2_with (first|(go_at_call 134;refine HL.out.mono ?_;rintro e E ⟨rfl,rfl⟩)|(go_at_call 107;refine HU.out.mono ?_;rintro e E ⟨rfl,rfl⟩));generalize hw1:w.setCell ⟨A.bs,ag G*2+1,none⟩ (.bool false)=H at*
    go_quiet (fail)
    generalize hw2:H.drewN _=w2;obtain⟨r1,g1⟩:=HR.out;have r2:aF A {D with tags:=D.tags.set (ag G) (tg,false)} w2:=by rw[<-hw2];exact r1.drewN _
    have g2:Grow A.L w A.L w2:=by rw[<-hw2];exact g1.trans (Grow.drewN _ _ _)
    obtain⟨a1,a2,r3,g3⟩:=NEXT.out w2 r2;have g4:=g2.trans g3;obtain⟨av,jB,hv,hstep⟩:=yP r3 (ag G);obtain⟨r5,g5,_⟩:=dz r3 #[I (ag G)] 3;have p2:=r3.bP 2 (v:=A.fH) rfl;have aY:=oH r5;rw[hv] at p2 aY;have HS:=U hstep;have HV:=U hv;have HO:=U aY;have HQ:=U g4;clear r1 g1 r2 g2 r3 g3 g4 hw2 hv aY hstep r5 g5;obtain⟨ii,hii,hz0,hz1,hz2⟩:=info_parts Cs;have hsz:∀ a u,(w2.setCell a u).heap.size=w2.heap.size:=fun a u=>by simp[World.setCell]
    have HZ:=U hsz;clear hsz;go_wp2_with (refine Ow.dZ _ rfl (.tmp 55) (.tmp 57) 36 rfl 0 _ ii _ 1 8 Tryz.underlying36 hii hz0 hz1 hz2 rfl (by decide) (.slice av D.free.length jB) D.free.length (D.free.map i64) rfl HO.out (J w2.heap.size 0) 1 1 (by omega) [I (ag G)] rfl rfl (by intro j' u hu;rw[<-HZ.out ⟨A.bs,ag G*2,none⟩ (I ((tg:Int)+1))];exact Ow.iC _ [I (ag G)] _ _ rfl j' u hu) (by intro u hu;obtain rfl:=List.mem_singleton.1 hu;rfl) (by have:=HN.out;unfold maxLen;omega) (by have:=HN.out;omega) (zz _) ?_;intro v' w4 q1 q2 q3;obtain⟨k1,k2,k3,_⟩:=HS.out v' w4 q1 (by rw[HV.out];exact q2) (by rw[HV.out];exact q3);obtain⟨a4,cap4,rfl,_⟩:=Ow.bO q1;have K1:=U k1;clear k1 q1 q2 q3);go_ret;obtain⟨A2,h1,h2,h3⟩:=K1.out;exact⟨⟨_,rfl⟩,A2,h1,h2,HQ.out.trans h3⟩
theorem CK {A:az} {D:St} {w:World} (hR:aF A D w) (s:Nat) (G:Nat) (hv0:G=0∨VL D G) (hp:iY D):
 zk 174 #[R A.V 0,R (A.bt s) 0,R (A.bc s) 0,zu G] w (bG A w s (D.lost G)):=by
 by_cases h0:G=0
 . have e:D.lost G=(D,.abort 14 2):=by unfold St.lost;rw[bu (by simpa using h0)]
   rw[e];have d1:((G:Int) !=0)=false:=by simpa using h0
   have d2:((G:Int)=0)=True:=by simpa using h0
   have d3:((G:Int)==0)=true:=by simpa using h0
   have HA:=U (jM hR s 14 2);clear hR hv0 hp h0 e;go_enter Tryz.func174,Tryz.ntmps174;go_wp2_with (go_at_call 97;refine HA.out.mono ?_;rintro e w2 ⟨A2,v,rfl,p1,p2,p3,p4⟩);go_ret;exact⟨A2,v,rfl,p1,p2,p3,p4⟩
 . have hv:=hv0.resolve_left h0
   have e:D.lost G=(D.give G,.abort 14 2):=by unfold St.lost;rw[aW (by simpa using h0)]
   rw[e];have d1:((G:Int) !=0)=true:=by simpa using h0
   have d2:((G:Int)=0)=False:=by simpa using h0
   have d3:((G:Int)==0)=false:=by simpa using h0
   have e3:=hR.bT 3 (v:=R A.bp 0) rfl;have HG:=U (CJ hR G hv hp);clear hR hv0 hv hp h0 e;generalize D.give G=aC at*;go_enter Tryz.func174,Tryz.ntmps174;go_wp2_with (first|(go_at_call 100;refine HG.out.mono ?_;rintro e H ⟨⟨z,rfl⟩,A1,⟨L1,v1,rfl⟩,q1,q2⟩;have HA:=U (jM q1 s 14 2);have HQ:=U q2;clear q1 q2)|(go_at_call 97;refine HA.out.mono ?_;rintro e w2 ⟨A2,v,rfl,p1,p2,p3,p4⟩));go_ret;have hst:bU A {A with L:=L1,fH:=v1} s:=⟨rfl,rfl,rfl,rfl,rfl,rfl,rfl,rfl,rfl,rfl,rfl,fun _ _=>rfl,fun _ _=>rfl⟩
   exact⟨A2,v,rfl,p1,HQ.out.trans p2,hst.trans p3,p4⟩
variable {A:az} {D:St} {w:World}
theorem eY (h:aF A D w) (id:Nat) (hid:id<=65535):
 zk 48 #[R A.V 0,I id] w fun e E=>e=.returned (I ((D.place id:Nat):Int))∧E=w:=flip (yL h id hid)
theorem IA (hR:aF A D w) (s:Nat) (t:bL) (ht:D.ai.getD s none=some t) (G head at_ id:Nat) (hv0:G=0∨VL D G) (hid:id<=65535) (hpl:D.place id<D.words.length) (hw:D.word (D.place id)<18446744073709551616) (hp:iY D) (aN:D.count<4000000000000000000)
 (b0 b1 b2 b3 b4 b5:Nat) (B0:aP A.L w b0 (R A.V 0)) (B1:l7 A.L w b1 id) (B2:aP A.L w b2 (R (A.bt s) 0)) (B3:lT (kp A D s) A.L w b3 G head at_) (B4:aP A.L w b4 (R (A.bc s) 0)) (B5:aP A.L w b5 (zu G)):
 zk 175 #[R b0 0,R b1 0,R b2 0,R b3 0,R b4 0,R b5 0] w (lF A w s (D.run s (.dX G head at_ id))):=by
 obtain⟨_,S1⟩:=B1;obtain⟨nv,X3,m0,m1,m2,m3,m4,m5,U3,N0,N1,N2,N3,N4,N5⟩:=B3;have c0:=B0.cell;have c1:=S1.cell 1 (v:=zu id) rfl;have e2:=hR.z2;have HP:=U (eY hR.drew id hid);have HL:=U (iN hR.drew (D.place id) hpl aN);have HU:=U (fun E=>iX (D.word (D.place id)) hw E);have n1:IntKind.i64.wrap (id:Int)=(id:Int):=by rw[je];omega
 have HG:=zG A.L w;have HK:Hid (∀ E,Kp A w E->zS E b0 0 A.V 0∧zV E b1 1 id∧zS E A.V 2 A.ba 0):=by
  obtain⟨_,x0⟩:=B0;exact fun E k=>⟨k.fix _ _ _ x0.1 c0,k.fix _ _ _ S1.1 c1,k.ea⟩
 have HB : Hid (∀ H, aF A D.tick H -> Grow A.L w A.L H -> zS H b0 0 A.V 0 ∧ zS H b2 0 (A.bt s) 0 ∧ H.cell? (J b3 0) = some nv ∧ zS H b4 0 (A.bc s) 0 ∧ zV H b5 0 (G : Int) ∧ zV H (A.bt s) 3 (t.aJ : Int) ∧
     (∀ H,aF A D.tick H->zk 174 #[R A.V 0,R (A.bt s) 0,R (A.bc s) 0,zu G] H (bG A H s (D.tick.lost G)))):=by
  intro H q1 q2;have g:=q2;exact⟨(B0.grow g).cell,(B2.grow g).cell,(X3.grow g).cell,(B4.grow g).cell,(B5.grow g).cell,q1.fI ht 3 rfl,fun w3 q3=>CK q3 s G (hv0.imp (fun h=>h) fun h=>⟨h.lo,h.hi,h.u⟩) ⟨hp.n,hp.free,hp.tag,hp.jh⟩⟩
 have HN:=U (zA N0 (zA N1 (zA N2 (zA N3 (zA N4 N5)))));have aU:D.run s (.dX G head at_ id)=if bA (D.word (D.place id))=4∨(0<il (D.word (D.place id))∧il (D.word (D.place id))<=t.aJ) then (D.tick,some (.next G head at_)) else ((D.tick.lost G).1,some (D.tick.lost G).2):=by
  have e:(D.tick.t s)=t:=cK ht;simp only[St.run,e]
 rw[aU];clear hR ht hv0 hid hpl hw hp aN B0 S1 B2 X3 B4 B5 N0 N1 N2 N3 N4 N5 aU;subst U3;generalize D.word (D.place id)=x at*;generalize hst:bA x=st at*;generalize hen:il x=en at*;generalize t.aJ=bg at*;clear hst hen
 by_cases h4:st=4
 . rw[aW (Or.inl h4)]
   subst h4;go_enter Tryz.func175,Tryz.ntmps175;go_wp2_with fail
   go_region_held3 (fun E=>zS E b0 0 A.V 0∧zV E b1 1 id∧zS E A.V 2 A.ba 0)
    (first|exact⟨c0,c1,e2⟩|assumption|exact HK.out _ (Kp.of (by assumption) (by assumption) (by assumption)))
    (first|(go_at_call 48;refine HP.out.mono ?_;rintro e E ⟨rfl,rfl⟩)|(go_at_call 42;refine HL.out.mono ?_;rintro e H ⟨rfl,q1,q2⟩;have q4:=HG.out.trans q2;have q3:=bU.refl A s;clear q2)|(go_at_call 109;refine (HU.out _).mono ?_;rintro e E ⟨rfl,rfl⟩))
   obtain⟨d0,d2,d3,d4,d5,d6,Y⟩:=HB.out _ (by assumption) (by assumption);have HQ:=U (zA (‹aF A D.tick _›) (zA (‹Grow A.L w A.L _›) Y));clear Y;go_wp2_with fail;go_ret;obtain⟨q1,g1,_⟩:=HQ.out;exact⟨A,_,rfl,q1,g1,bU.refl _ _,_,_,_,_,_,_,rfl,(HN.out.1).grow g1,(HN.out.2.1).grow g1,(HN.out.2.2.1).grow g1,(HN.out.2.2.2.1).grow g1,(HN.out.2.2.2.2.1).grow g1,(HN.out.2.2.2.2.2).grow g1⟩
 . have a1:((st:Int)==4)=false:=by simp;omega
   have a2:((st:Int)=4)=False:=by simp;omega
   by_cases h0:en=0
   . rw[bu (by omega)]
     have a3:decide ((0:Int)<(en:Int))=false:=by simp;omega
     have a4:((0:Int)<(en:Int))=False:=by simp;omega
     have XV:(0<en)=False:=by simp;omega
     clear h4 h0;go_enter Tryz.func175,Tryz.ntmps175;go_wp2_with fail
     go_region_held3 (fun E=>zS E b0 0 A.V 0∧zV E b1 1 id∧zS E A.V 2 A.ba 0)
      (first|exact⟨c0,c1,e2⟩|assumption|exact HK.out _ (Kp.of (by assumption) (by assumption) (by assumption)))
      (first|(go_at_call 48;refine HP.out.mono ?_;rintro e E ⟨rfl,rfl⟩)|(go_at_call 42;refine HL.out.mono ?_;rintro e H ⟨rfl,q1,q2⟩;have q4:=HG.out.trans q2;have q3:=bU.refl A s;clear q2)|(go_at_call 109;refine (HU.out _).mono ?_;rintro e E ⟨rfl,rfl⟩))
     obtain⟨d0,d2,d3,d4,d5,d6,Y⟩:=HB.out _ (by assumption) (by assumption);have HQ:=U (zA (‹aF A D.tick _›) (zA (‹Grow A.L w A.L _›) Y));clear Y;go_wp2_with (go_at_call 174;refine (HQ.out.2.2 _ HQ.out.1).mono ?_;rintro e w2 ⟨A2,v,rfl,p1,p2,p3,p4⟩);go_ret;exact⟨A2,v,rfl,p1,HQ.out.2.1.trans p2,p3,p4⟩
   . have a3:decide ((0:Int)<(en:Int))=true:=by simp;omega
     have a4:((0:Int)<(en:Int))=True:=by simp;omega
     have XV:(0<en)=True:=by simp;omega
     by_cases Z:en<=bg
     . rw[aW (by omega)]
       have a5:decide ((en:Int)<=(bg:Int))=true:=by simp;omega
       have a6:((en:Int)<=(bg:Int))=True:=by simp;omega
       have XW:(en<=bg)=True:=by simp;omega
       clear h4 h0 Z;go_enter Tryz.func175,Tryz.ntmps175;go_wp2_with fail
       go_region_held3 (fun E=>zS E b0 0 A.V 0∧zV E b1 1 id∧zS E A.V 2 A.ba 0)
        (first|exact⟨c0,c1,e2⟩|assumption|exact HK.out _ (Kp.of (by assumption) (by assumption) (by assumption)))
        (first|(go_at_call 48;refine HP.out.mono ?_;rintro e E ⟨rfl,rfl⟩)|(go_at_call 42;refine HL.out.mono ?_;rintro e H ⟨rfl,q1,q2⟩;have q4:=HG.out.trans q2;have q3:=bU.refl A s;clear q2)|(go_at_call 109;refine (HU.out _).mono ?_;rintro e E ⟨rfl,rfl⟩))
       obtain⟨d0,d2,d3,d4,d5,d6,Y⟩:=HB.out _ (by assumption) (by assumption);have HQ:=U (zA (‹aF A D.tick _›) (zA (‹Grow A.L w A.L _›) Y));clear Y;go_wp2_with fail;go_ret;obtain⟨q1,g1,_⟩:=HQ.out;exact⟨A,_,rfl,q1,g1,bU.refl _ _,_,_,_,_,_,_,rfl,(HN.out.1).grow g1,(HN.out.2.1).grow g1,(HN.out.2.2.1).grow g1,(HN.out.2.2.2.1).grow g1,(HN.out.2.2.2.2.1).grow g1,(HN.out.2.2.2.2.2).grow g1⟩
     . rw[bu (by omega)]
       have a5:decide ((en:Int)<=(bg:Int))=false:=by simp;omega
       have a6:((en:Int)<=(bg:Int))=False:=by simp;omega
       have XW:(en<=bg)=False:=by simp;omega
       clear h4 h0 Z;go_enter Tryz.func175,Tryz.ntmps175;go_wp2_with fail
       go_region_held3 (fun E=>zS E b0 0 A.V 0∧zV E b1 1 id∧zS E A.V 2 A.ba 0)
        (first|exact⟨c0,c1,e2⟩|assumption|exact HK.out _ (Kp.of (by assumption) (by assumption) (by assumption)))
        (first|(go_at_call 48;refine HP.out.mono ?_;rintro e E ⟨rfl,rfl⟩)|(go_at_call 42;refine HL.out.mono ?_;rintro e H ⟨rfl,q1,q2⟩;have q4:=HG.out.trans q2;have q3:=bU.refl A s;clear q2)|(go_at_call 109;refine (HU.out _).mono ?_;rintro e E ⟨rfl,rfl⟩))
       obtain⟨d0,d2,d3,d4,d5,d6,Y⟩:=HB.out _ (by assumption) (by assumption);have HQ:=U (zA (‹aF A D.tick _›) (zA (‹Grow A.L w A.L _›) Y));clear Y;go_wp2_with (go_at_call 174;refine (HQ.out.2.2 _ HQ.out.1).mono ?_;rintro e w2 ⟨A2,v,rfl,p1,p2,p3,p4⟩);go_ret;exact⟨A2,v,rfl,p1,HQ.out.2.1.trans p2,p3,p4⟩
def wy (D:St) (s:Nat) (hu:dR) (G:Nat):Prop:=∀ A w,aF A D w->A.mp=0->Kb A w D s hu G
theorem Nz (hR:aF A D w) (s:Nat) (hmp:A.mp=0) (hu:dR) (G b0 b1:Nat) (B0:ic (kp A D s) A.L w b0 hu) (B1:aP A.L w b1 (zu G)) (hv:VL D G) (aN:D.count<4000000000000000000) (HT:D.word (af G 2)=0->wy D.tick s hu 0):
 zk 213 #[R b0 0,R b1 0] w (lF A w s (D.run s (.older hu G))):=by
 have hsl:=hR.sl;obtain⟨bh,X0,hh0⟩:=B0;obtain⟨vt,TT,fh,hth⟩:=id hh0;have c0:=X0.cell;have c1:=B1.cell;have h0:w.cell? (J bh 0)=zs A.V 0:=fh.cell 0 rfl;have e2:=hR.z2;have HK:Hid (∀ E,Kp A w E->zS E b0 0 bh 0∧zV E b1 0 G∧zS E bh 0 A.V 0∧zS E A.V 2 A.ba 0):=by
  obtain⟨_,x0⟩:=X0;obtain⟨_,x1⟩:=B1;exact fun E k=>⟨k.fix _ _ _ x0.1 c0,k.fix _ _ _ x1.1 c1,k.fix _ _ _ fh.1 h0,k.ea⟩
 have HS:=U (eD G 2 2 rfl hv.lo (by have:=hv.hi;omega) hv.u (by omega));have HL:=U (iN hR.drew (af G 2) (dD hR hv.lo hv.hi (by omega)) aN);have HG:=zG A.L w;have HB:Hid (∀ H,aF A D.tick H->Grow A.L w A.L H->zk 162 #[R bh 0,zu (D.word (af G 2):Int)] H (bG A H s (D.tick.visit s hu (D.word (af G 2))))):=
  fun H r g=>yS r s bh hu (hh0.grow g) _ fun hz=>HT hz A H r hmp
 have aU:D.run s (.older hu G)=((D.tick.visit s hu (D.word (af G 2))).1,some (D.tick.visit s hu (D.word (af G 2))).2):=rfl;rw[aU];clear hR hh0 fh hth hv aN HT aU X0 B1 hsl hmp;generalize D.tick.visit s hu (D.word (af G 2))=res at*;generalize D.word (af G 2)=nx at*;go_enter Tryz.func213,Tryz.ntmps213;go_wp2_with fail
 go_region_held3 (fun E=>zS E b0 0 bh 0∧zV E b1 0 G∧zS E bh 0 A.V 0∧zS E A.V 2 A.ba 0)
  (first|exact⟨c0,c1,h0,e2⟩|assumption|exact HK.out _ (Kp.of (by assumption) (by assumption) (by assumption)))
  (first|(go_at_call 85;refine (HS.out _).mono ?_;rintro e E ⟨rfl,rfl⟩)|(go_at_call 42;refine HL.out.mono ?_;rintro e H ⟨rfl,q1,q2⟩;have q4:=HG.out.trans q2;have q3:=bU.refl A s;clear q2)|(go_at_call 162;refine (HB.out _ (by assumption) (by assumption)).mono ?_;rintro e w2 ⟨A',v,rfl,p1,p2,p3,p4⟩;have p5:=(‹Grow A.L w A.L _›).trans p2))
 go_wp2_with fail;go_ret;exact⟨A',_,rfl,p1,p5,p3,p4⟩
theorem NA (hR:aF A D w) (s:Nat) (hu:dR) (G id b0 b1 b2:Nat) (B0:ic (kp A D s) A.L w b0 hu) (B1:aP A.L w b1 (I id)) (B2:aP A.L w b2 (zu G)) (hid:id<=65535) (hpl:D.place id<D.words.length) (hw:D.word (D.place id)<18446744073709551616) (aN:D.count<4000000000000000000):
 zk 202 #[R b0 0,R b1 0,R b2 0] w (lF A w s (D.run s (.maker hu G id))):=by
 obtain⟨bh,X0,hh0⟩:=B0;obtain⟨vt,TT,fh,hth⟩:=_root_.id hh0;have c0:=X0.cell;have c1:=B1.cell;have h0:w.cell? (J bh 0)=zs A.V 0:=fh.cell 0 rfl;have e2:=hR.z2;have HK:Hid (∀ E,Kp A w E->zS E b0 0 bh 0∧zT E b1 0 id∧zS E bh 0 A.V 0∧zS E A.V 2 A.ba 0):=by
  obtain⟨_,x0⟩:=X0;obtain⟨_,x1⟩:=B1;exact fun E k=>⟨k.fix _ _ _ x0.1 c0,k.fix _ _ _ x1.1 c1,k.fix _ _ _ fh.1 h0,k.ea⟩
 have HP:=U (eY hR.drew id hid);have HL:=U (iN hR.drew (D.place id) hpl aN);have HU:=U (fun E=>iX (D.word (D.place id)) hw E);have HG:=zG A.L w;have HB:Hid (∀ H,aF A D.tick H->Grow A.L w A.L H->zS H b0 0 bh 0∧zT H b1 0 id∧zV H b2 0 G∧zV H bh 3 hu.at_∧dS (kp A D.tick s) A.L H bh hu):=by
  intro H q g;have k:dS (kp A D.tick s) A.L H bh hu:=hh0.grow g;exact⟨(X0.grow g).cell,(B1.grow g).cell,(B2.grow g).cell,(fh.grow g).cell 3 rfl,k⟩
 have aU:D.run s (.maker hu G id)=(D.tick,some (if il (D.word (D.place id))=0∨hu.at_<il (D.word (D.place id))∨bA (D.word (D.place id))=4 then .older hu G else if bA (D.word (D.place id))=2 then .ended hu G id else .ended hu G 0)):=by
  simp only[St.run];split<;>(try split)<;>rfl
 rw[aU];have CL:Hid (∀ H,aF A D.tick H->Grow A.L w A.L H->zk 201 #[R bh 0,zu G] H (bG A H s (D.tick,.older hu G))):=fun H q g=>mR q s bh hu (show dS (kp A D.tick s) A.L H bh hu from hh0.grow g) G
 have U4:Hid (∀ H,aF A D.tick H->Grow A.L w A.L H->zk 200 #[R bh 0,zu G,I id] H (bG A H s (D.tick,.ended hu G id))):=fun H q g=>tQ q s bh hu (show dS (kp A D.tick s) A.L H bh hu from hh0.grow g) G id
 have Si:Hid (∀ H,aF A D.tick H->Grow A.L w A.L H->zk 200 #[R bh 0,zu G,I 0] H (bG A H s (D.tick,.ended hu G 0))):=fun H q g=>tQ q s bh hu (show dS (kp A D.tick s) A.L H bh hu from hh0.grow g) G 0
 clear hR hid hpl hw aN X0 B1 B2 fh hth hh0 aU;generalize D.word (D.place id)=x at*;generalize hst:bA x=st at*;generalize hen:il x=en at*;generalize hu.at_=ha at*;clear hst hen
 by_cases IB:en=0
 . rw[aW (Or.inl IB)]
   obtain⟨fa1,fa2,fa3,fa4,fa5⟩:=rT (x:=en) (c:=0) (ci:=0) (by omega);clear IB;go_enter Tryz.func202,Tryz.ntmps202;go_wp2_with fail
   go_region_held3 (fun E=>zS E b0 0 bh 0∧zT E b1 0 id∧zS E bh 0 A.V 0∧zS E A.V 2 A.ba 0)
    (first|exact⟨c0,c1,h0,e2⟩|assumption|exact HK.out _ (Kp.of (by assumption) (by assumption) (by assumption)))
    (first|(go_at_call 48;refine HP.out.mono ?_;rintro e E ⟨rfl,rfl⟩)|(go_at_call 42;refine HL.out.mono ?_;rintro e H ⟨rfl,q1,q2⟩;have q4:=HG.out.trans q2;have q3:=bU.refl A s;clear q2)|(go_at_call 109;refine (HU.out _).mono ?_;rintro e E ⟨rfl,rfl⟩))
   obtain⟨d0,d1,d2,d3,Y⟩:=HB.out _ (by assumption) (by assumption);have HQ:=U (zA (‹aF A D.tick _›) (zA (‹Grow A.L w A.L _›) Y));clear Y;go_wp2_with (go_at_call 201;refine (CL.out _ HQ.out.1 HQ.out.2.1).mono ?_;rintro e w2 ⟨A2,v,rfl,p1,p2,p3,p4⟩);go_ret;exact⟨A2,v,rfl,p1,HQ.out.2.1.trans p2,p3,p4⟩
 . have fa1:((en:Int)==0)=false:=by simp<;>omega
   have fa2:((en:Int)=0)=False:=by simp<;>omega
   have fa3:(en=0)=False:=by simp<;>omega
   have fa4:(en==0)=false:=by simp<;>omega
   have fa5:((en:Int) !=0)=true:=by simp<;>omega
   by_cases hlt:ha<en
   . rw[aW (Or.inr (Or.inl hlt))]
     obtain⟨Ki,Kj,Kk,Kl⟩:=UW (x:=ha) (c:=en) (xi:=(ha:Int)) (ci:=(en:Int)) (by omega);clear IB hlt;go_enter Tryz.func202,Tryz.ntmps202;go_wp2_with fail
     go_region_held3 (fun E=>zS E b0 0 bh 0∧zT E b1 0 id∧zS E bh 0 A.V 0∧zS E A.V 2 A.ba 0)
      (first|exact⟨c0,c1,h0,e2⟩|assumption|exact HK.out _ (Kp.of (by assumption) (by assumption) (by assumption)))
      (first|(go_at_call 48;refine HP.out.mono ?_;rintro e E ⟨rfl,rfl⟩)|(go_at_call 42;refine HL.out.mono ?_;rintro e H ⟨rfl,q1,q2⟩;have q4:=HG.out.trans q2;have q3:=bU.refl A s;clear q2)|(go_at_call 109;refine (HU.out _).mono ?_;rintro e E ⟨rfl,rfl⟩))
     obtain⟨d0,d1,d2,d3,Y⟩:=HB.out _ (by assumption) (by assumption);have HQ:=U (zA (‹aF A D.tick _›) (zA (‹Grow A.L w A.L _›) Y));clear Y;go_wp2_with (go_at_call 201;refine (CL.out _ HQ.out.1 HQ.out.2.1).mono ?_;rintro e w2 ⟨A2,v,rfl,p1,p2,p3,p4⟩);go_ret;exact⟨A2,v,rfl,p1,HQ.out.2.1.trans p2,p3,p4⟩
   . have Ki:decide ((ha:Int)<(en:Int))=false:=by simp<;>omega
     have Kj:((ha:Int)<(en:Int))=False:=by simp<;>omega
     have Kk:(ha<en)=False:=by simp<;>omega
     have Kl:decide (ha<en)=false:=by simp<;>omega
     by_cases h4:st=4
     . rw[aW (Or.inr (Or.inr h4))]
       obtain⟨NB,NC,ND,NF,NG⟩:=rT (x:=st) (c:=4) (ci:=4) (by omega);clear IB hlt h4;go_enter Tryz.func202,Tryz.ntmps202;go_wp2_with fail
       go_region_held3 (fun E=>zS E b0 0 bh 0∧zT E b1 0 id∧zS E bh 0 A.V 0∧zS E A.V 2 A.ba 0)
        (first|exact⟨c0,c1,h0,e2⟩|assumption|exact HK.out _ (Kp.of (by assumption) (by assumption) (by assumption)))
        (first|(go_at_call 48;refine HP.out.mono ?_;rintro e E ⟨rfl,rfl⟩)|(go_at_call 42;refine HL.out.mono ?_;rintro e H ⟨rfl,q1,q2⟩;have q4:=HG.out.trans q2;have q3:=bU.refl A s;clear q2)|(go_at_call 109;refine (HU.out _).mono ?_;rintro e E ⟨rfl,rfl⟩))
       obtain⟨d0,d1,d2,d3,Y⟩:=HB.out _ (by assumption) (by assumption);have HQ:=U (zA (‹aF A D.tick _›) (zA (‹Grow A.L w A.L _›) Y));clear Y;go_wp2_with (go_at_call 201;refine (CL.out _ HQ.out.1 HQ.out.2.1).mono ?_;rintro e w2 ⟨A2,v,rfl,p1,p2,p3,p4⟩);go_ret;exact⟨A2,v,rfl,p1,HQ.out.2.1.trans p2,p3,p4⟩
     . rw[bu (by omega)]
       obtain⟨NB,NC,ND,NF,NG⟩:=qE (x:=st) (c:=4) (ci:=4) (by omega)
       by_cases h2:st=2
       . rw[aW h2]
         obtain⟨fd1,Qm,Qn,Qo,Qp⟩:=rT (x:=st) (c:=2) (ci:=2) (by omega);clear IB hlt h4 h2;go_enter Tryz.func202,Tryz.ntmps202;go_wp2_with fail
         go_region_held3 (fun E=>zS E b0 0 bh 0∧zT E b1 0 id∧zS E bh 0 A.V 0∧zS E A.V 2 A.ba 0)
          (first|exact⟨c0,c1,h0,e2⟩|assumption|exact HK.out _ (Kp.of (by assumption) (by assumption) (by assumption)))
          (first|(go_at_call 48;refine HP.out.mono ?_;rintro e E ⟨rfl,rfl⟩)|(go_at_call 42;refine HL.out.mono ?_;rintro e H ⟨rfl,q1,q2⟩;have q4:=HG.out.trans q2;have q3:=bU.refl A s;clear q2)|(go_at_call 109;refine (HU.out _).mono ?_;rintro e E ⟨rfl,rfl⟩))
         obtain⟨d0,d1,d2,d3,Y⟩:=HB.out _ (by assumption) (by assumption);have HQ:=U (zA (‹aF A D.tick _›) (zA (‹Grow A.L w A.L _›) Y));clear Y;go_wp2_with (go_at_call 200;refine (U4.out _ HQ.out.1 HQ.out.2.1).mono ?_;rintro e w2 ⟨A2,v,rfl,p1,p2,p3,p4⟩);go_ret;exact⟨A2,v,rfl,p1,HQ.out.2.1.trans p2,p3,p4⟩
       . rw[bu h2]
         obtain⟨fd1,Qm,Qn,Qo,Qp⟩:=qE (x:=st) (c:=2) (ci:=2) (by omega);clear IB hlt h4 h2;go_enter Tryz.func202,Tryz.ntmps202;go_wp2_with fail
         go_region_held3 (fun E=>zS E b0 0 bh 0∧zT E b1 0 id∧zS E bh 0 A.V 0∧zS E A.V 2 A.ba 0)
          (first|exact⟨c0,c1,h0,e2⟩|assumption|exact HK.out _ (Kp.of (by assumption) (by assumption) (by assumption)))
          (first|(go_at_call 48;refine HP.out.mono ?_;rintro e E ⟨rfl,rfl⟩)|(go_at_call 42;refine HL.out.mono ?_;rintro e H ⟨rfl,q1,q2⟩;have q4:=HG.out.trans q2;have q3:=bU.refl A s;clear q2)|(go_at_call 109;refine (HU.out _).mono ?_;rintro e E ⟨rfl,rfl⟩))
         obtain⟨d0,d1,d2,d3,Y⟩:=HB.out _ (by assumption) (by assumption);have HQ:=U (zA (‹aF A D.tick _›) (zA (‹Grow A.L w A.L _›) Y));clear Y;go_wp2_with (go_at_call 200;refine (Si.out _ HQ.out.1 HQ.out.2.1).mono ?_;rintro e w2 ⟨A2,v,rfl,p1,p2,p3,p4⟩);go_ret;exact⟨A2,v,rfl,p1,HQ.out.2.1.trans p2,p3,p4⟩
end Go.Proofs.YthicolbbmjfkfaaGreat.Em
