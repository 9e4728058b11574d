import Derived.Test.YthicolbbmjfkfaaGreatQf16
set_option linter.unusedVariables false
set_option linter.unusedSimpArgs false
set_option maxRecDepth 100000
set_option maxHeartbeats 1600000
namespace Go.Proofs.YthicolbbmjfkfaaGreat.Em
open Go.ChangeShapes Go.WideShapes Go.ChangeAt Go.RowKit En
variable {A:az} {D:St} {w:World}
theorem bY {w:World} {o:Obj} {a:Addr} {v:Value} (h:w.cell? a=some v):(w.alloc o).cell? a=some v:=by
 rw[World.cell?_alloc_some _ _ _ (by rw[h];rfl)];exact h
theorem jd.form {A:az} {l:List (Nat×Nat)} (h:jd A l):∃ av n c,A.jc=.slice av n c:=by
 rcases h with ⟨-,h,-⟩|⟨-,k,cap,h,-⟩<;>exact⟨_,_,_,h⟩
theorem FL (hR:aF A D w) (F ak G nx:Nat) (Y:F<=63) (hah:ak=0) (hok:D.word (9+F)≠G) (aN:D.count<4000000000000000000) (b0 b1 b2 b3 b4:Nat) (B0:aP A.L w b0 (zu ak)) (B1:aP A.L w b1 (R A.V 0)) (B2:aP A.L w b2 (zu nx)) (B3:aP A.L w b3 (I F)) (B4:aP A.L w b4 (zu G)):
 zk 222 #[R b0 0,R b1 0,R b2 0,R b3 0,R b4 0] w (sN A D w (D.aH (.cut F ak G nx))):=by
 have c0:=B0.cell;have c1:=B1.cell;have c2:=B2.cell;have c3:=B3.cell;have c4:=B4.cell;have e2:=hR.z2;have hsl:=hR.sl;have n1:IntKind.i64.wrap (9+(F:Int))=9+(F:Int):=by rw[je];omega
 have nM:Hid (aF A D w.drew):=hR.drew;have HG:=zG A.L w;have HKK:Hid (∀ bF E,aF A bF E->Grow A.L w A.L E->zV E b0 0 ak∧zS E b1 0 A.V 0∧zV E b2 0 nx∧zT E b3 0 F∧zV E b4 0 G∧zS E A.V 2 A.ba 0):=fun bF E r g=>⟨(B0.grow g).cell,(B1.grow g).cell,(B2.grow g).cell,(B3.grow g).cell,(B4.grow g).cell,r.bT 2 rfl⟩
 have uS:Hid (∀ bF E x,aF A bF E->Grow A.L w A.L E->zV (E.setCell (J A.V 25) x) b0 0 ak∧zS (E.setCell (J A.V 25) x) b1 0 A.V 0∧zV (E.setCell (J A.V 25) x) b2 0 nx∧zT (E.setCell (J A.V 25) x) b3 0 F∧zV (E.setCell (J A.V 25) x) b4 0 G∧zS (E.setCell (J A.V 25) x) A.V 2 A.ba 0):=fun bF E x r g=>let ⟨r',g'⟩:=r.fV x .now;⟨(B0.grow (g.trans g')).cell,(B1.grow (g.trans g')).cell,(B2.grow (g.trans g')).cell,(B3.grow (g.trans g')).cell,(B4.grow (g.trans g')).cell,r'.bT 2 rfl⟩
 have f1:((ak:Int)=0)=True:=by simp;omega
 have f2:((ak:Int)==0)=true:=by simp;omega
 have f3:((ak:Int) !=0)=false:=by simp;omega
 have KE:Hid (∀ E,aF A D E->zk 45 #[R A.ba 0,I (9+(F:Int)),zu G,zu nx] E (uL A E D.tick (.bool false))):=fun E r=>by
  have hh:=nH r (9+F) G nx (by rw[r.nw];omega) aN;rw[show ((9+F:Nat):Int)=9+(F:Int) by omega,show D.cB (9+F) G nx=D.tick by unfold St.cB;rw[bu hok],show (D.word (9+F)==G)=false by simpa using hok] at hh;exact hh
 have HM:Hid (∀ E,aF A D.tick E->zk 135 #[R A.V 0,I F] E (iQ A D.tick E (mG F))):=fun E r=>tY r F (by omega)
 have jU:D.aH (.cut F ak G nx)=({D.tick with sw:=mG F},true):=by simp only[St.aH];rw[bu (fun h=>h hah),bu hok]
 rw[jU,show mG F=some (.head F) by unfold mG;rw[bu (by omega)]];rw[show mG F=some (.head F) by unfold mG;rw[bu (by omega)]] at HM;clear hR aN hok B0 B1 B2 B3 B4 hsl jU hah Y;go_enter Tryz.func222,Tryz.ntmps222;go_wp2_with fail
 go_region_held3 (fun E=>zV E b0 0 ak∧zS E b1 0 A.V 0∧zV E b2 0 nx∧zT E b3 0 F∧zV E b4 0 G∧zS E A.V 2 A.ba 0)
  (first|exact⟨c0,c1,c2,c3,c4,e2⟩|assumption|go_keep|exact HKK.out _ _ (by assumption) (by assumption))
  (first|(go_at_call 45;refine (KE.out _ nM.out).mono ?_;rintro e H ⟨rfl,q1,q2⟩;have q4:=HG.out.trans q2;clear q2))
 obtain⟨d0,d1,d2,d3,d4,d5⟩:=HKK.out _ _ q1 q4;have tZ:=U q1.drew;have AX:=U (q4.trans (Grow.drew _ _));clear q1 q4;go_wp2_with fail
 go_region_held3 (fun E=>zV E b0 0 ak∧zS E b1 0 A.V 0∧zV E b2 0 nx∧zT E b3 0 F∧zV E b4 0 G∧zS E A.V 2 A.ba 0)
  (first|exact⟨d0,d1,d2,d3,d4,d5⟩|assumption|go_keep|exact HKK.out _ _ (by assumption) (by assumption)|exact uS.out _ _ _ (by assumption) (by assumption))
  (first|(go_at_call 135;refine (HM.out _ tZ.out).mono ?_;rintro e w2 ⟨v,rfl,p1,p2,p3⟩;obtain⟨fv,fb,fc,e3⟩:=jA.form p3;subst e3;obtain⟨vo,y25⟩:∃ vo,w2.cell? (J A.V 25)=some vo:=⟨_,p1.bT 25 (v:=A.sv D.tick.sw) rfl⟩;have z25:=p1.iE 25;have q5:=AX.out.trans p2;have HP:=U p3;clear p2 p3))
 go_wp2_with fail;go_ret;obtain⟨A',a1,a2,a3,a4,a5⟩:=p1.fB _ _ HP.out;exact⟨rfl,A',a1,a3,q5.trans a4,a5,fun hc=>hc.keep a2 rfl (q5.trans a4)⟩
set_option maxHeartbeats 16000000 in
theorem DN (hR:aF A D w) (F ak G nx:Nat) (Y:F<=63) (hah:ak=0∧D.word (9+F)=G∨VL D ak) (hck:jd A D.cut) (hln:D.cut.length<1000000) (aN:D.count<4000000000000000000) (b0 b1 b2 b3 b4:Nat) (B0:aP A.L w b0 (zu ak)) (B1:aP A.L w b1 (R A.V 0)) (B2:aP A.L w b2 (zu nx)) (B3:aP A.L w b3 (I F)) (B4:aP A.L w b4 (zu G)):
 zk 222 #[R b0 0,R b1 0,R b2 0,R b3 0,R b4 0] w (sN A D w (D.aH (.cut F ak G nx))):=by
 have c0:=B0.cell;have c1:=B1.cell;have c2:=B2.cell;have c3:=B3.cell;have c4:=B4.cell;have e2:=hR.z2;have hsl:=hR.sl;have n1:IntKind.i64.wrap (9+(F:Int))=9+(F:Int):=by rw[je];omega
 have nM:Hid (aF A D w.drew):=hR.drew;have HG:=zG A.L w;have HKK:Hid (∀ bF E,aF A bF E->Grow A.L w A.L E->zV E b0 0 ak∧zS E b1 0 A.V 0∧zV E b2 0 nx∧zT E b3 0 F∧zV E b4 0 G∧zS E A.V 2 A.ba 0):=fun bF E r g=>⟨(B0.grow g).cell,(B1.grow g).cell,(B2.grow g).cell,(B3.grow g).cell,(B4.grow g).cell,r.bT 2 rfl⟩
 have rR:Hid (∀ L' E,Grow A.L w L' E->zV E b0 0 ak∧zS E b1 0 A.V 0∧zV E b2 0 nx∧zT E b3 0 F∧zV E b4 0 G):=fun L' E g=>⟨(B0.grow g).cell,(B1.grow g).cell,(B2.grow g).cell,(B3.grow g).cell,(B4.grow g).cell⟩
 obtain⟨MU,n0,c0',tL⟩:=hck.form
 rcases hah with ⟨hah,hok⟩|hah
 . have f1:((ak:Int)=0)=True:=by simp;omega
   have f2:((ak:Int)==0)=true:=by simp;omega
   have f3:((ak:Int) !=0)=false:=by simp;omega
   have KE:Hid (∀ E,aF A D E->zk 45 #[R A.ba 0,I (9+(F:Int)),zu G,zu nx] E (uL A E (D.put (9+F) nx) (.bool true))):=fun E r=>by
    have hh:=nH r (9+F) G nx (by rw[r.nw];omega) aN;rw[show ((9+F:Nat):Int)=9+(F:Int) by omega,show D.cB (9+F) G nx=D.put (9+F) nx by unfold St.cB;rw[aW hok],show (D.word (9+F)==G)=true by rw[hok];simp] at hh;exact hh
   have jU:D.aH (.cut F ak G nx)=({D.put (9+F) nx with cut:=D.cut++[(G,D.seq)],cuts:=D.cuts+1,sw:=iK F ak nx},true):=by simp only[St.aH];rw[bu (fun h=>h hah),aW hok]
   rw[jU];obtain⟨yF,FM⟩:∃ yF,yF=D.put (9+F) nx:=⟨_,rfl⟩
   have Lh:Hid (yF.cut=D.cut∧yF.seq=D.seq∧yF.cuts=D.cuts):=by rw[FM];exact⟨rfl,rfl,rfl⟩
   have TZ:Hid (jd A yF.cut∧yF.cut.length<1000000):=by rw[Lh.out.1];exact⟨hck,hln⟩
   rw[<-FM] at KE ⊢;clear hR aN hok B0 B1 B2 B3 B4 hsl jU hah FM hck hln;go_enter Tryz.func222,Tryz.ntmps222;go_wp2_with fail
   go_region_held3 (fun E=>zV E b0 0 ak∧zS E b1 0 A.V 0∧zV E b2 0 nx∧zT E b3 0 F∧zV E b4 0 G∧zS E A.V 2 A.ba 0)
    (first|exact⟨c0,c1,c2,c3,c4,e2⟩|assumption|go_keep|exact HKK.out _ _ (by assumption) (by assumption))
    (first|(go_at_call 45;refine (KE.out _ nM.out).mono ?_;rintro e H ⟨rfl,q1,q2⟩;have q4:=HG.out.trans q2;clear q2))
   obtain⟨d0,d1,d2,d3,d4,d5⟩:=HKK.out _ _ q1 q4;have y27:H.cell? (J A.V 27)=some (.slice MU n0 c0'):=(q1.bT 27 rfl).trans (congrArg some tL);have z27:=q1.iE 27;have y22:H.cell? (J A.V 22)=zt (D.seq:Int):=(q1.bT 22 rfl).trans (by rw[Lh.out.2.1]);have HQ:=U (zA q1 q4);clear q1 q4;go_wp2_with fail;refine wp_region_held_drew (S:=fun E=>zS E b1 0 A.V 0∧zV E b4 0 G∧zT E A.V 22 (D.seq:Int)) (by kernel_rfl) ?_ (fun aD=>?_)
   . (try dsimp only);exact⟨d1,d4,y22⟩
   have OV:=U (zA HQ.out.1.drew (HQ.out.2.trans (Grow.drew A.L H)));have LC:H.drew.cell? (J A.V 27)=some (.slice MU n0 c0'):=y27;have Q8:H.drew.frozen? (J A.V 27)=false:=z27;clear d0 d1 d2 d3 d4 d5 y22 y27 z27 HQ;generalize H.drew=vd at*;have Q9:∀ ob,(vd.alloc ob).cell? (J A.V 27)=some (.slice MU n0 c0'):=fun ob=>bY LC
   refine gp (i:=0) rfl aD ?_
   (try simp only[dK,dL,dM,Act.put,dN,dO,dP])
   refine gp (i:=1) rfl aD ?_
   (try simp only[dK,dL,dM,Act.put,dN,dO,dP])
   refine gp (i:=2) rfl aD ?_
   (try simp only[dK,dL,dM,Act.put,dN,dO,dP])
   refine gp (i:=3) rfl aD ?_
   (try simp only[dK,dL,dM,Act.put,dN,dO,dP])
   refine gp (i:=4) rfl aD ?_
   (try simp only[dK,dL,dM,Act.put,dN,dO,dP])
   refine gp (i:=6) rfl aD ?_
   (try simp only[dK,dL,dM,Act.put,dN,dO,dP])
   refine gp (i:=7) rfl aD ?_
   (try simp only[dK,dL,dM,Act.put,dN,dO,dP])
   refine gp (i:=8) rfl aD ?_
   (try simp only[dK,dL,dM,Act.put,dN,dO,dP])
   refine gp (i:=9) rfl aD ?_
   (try simp only[dK,dL,dM,Act.put,dN,dO,dP])
   refine gp (i:=10) rfl aD ?_
   (try simp only[dK,dL,dM,Act.put,dN,dO,dP])
   refine gp (i:=11) rfl aD ?_
   (try simp only[dK,dL,dM,Act.put,dN,dO,dP])
   refine wpAnyH_ready (rs:=[5,12]) (by kernel_rfl) (by simp) ?_;refine AllReadyH.cons (o:=_) rfl (fun K hK=>?_) (AllReadyH.cons (o:=_) rfl (fun K hK=>?_) AllReadyH.nil)
   focus (
    go_simp
    refine hK.out _ _ ?_ (fun aD=>?_)
    . (try dsimp only);exact aD
    clear hK K
    (try simp only[dK,dL,dM,Act.put,dN,dO,dP])
    refine wpAnyH_ready (rs:=[12]) (by kernel_rfl) (by simp) ?_
    refine AllReadyH.cons (o:=_) rfl (fun K hK=>?_) AllReadyH.nil
    go_simp
    refine hK.out _ _ ?_ (fun aD=>?_)
    . (try dsimp only);exact⟨bY aD.1,bY aD.2.1,bY aD.2.2⟩
    clear hK K
    (try simp only[dK,dL,dM,Act.put,dN,dO,dP])
   )
   rotate_left
   focus (
    go_simp
    refine hK.out _ _ ?_ (fun aD=>?_)
    . (try dsimp only);exact⟨bY aD.1,bY aD.2.1,bY aD.2.2⟩
    clear hK K
    (try simp only[dK,dL,dM,Act.put,dN,dO,dP])
    refine wpAnyH_ready (rs:=[5]) (by kernel_rfl) (by simp) ?_
    refine AllReadyH.cons (o:=_) rfl (fun K hK=>?_) AllReadyH.nil
    go_simp
    refine hK.out _ _ ?_ (fun aD=>?_)
    . (try dsimp only);exact aD
    clear hK K
    (try simp only[dK,dL,dM,Act.put,dN,dO,dP])
   )
   rotate_left
   all_goals (
    refine wpAnyH_ready (rs:=[13]) (by kernel_rfl) (by simp) ?_
    refine AllReadyH.cons (o:=_) rfl (fun K hK=>?_) AllReadyH.nil
    rw[aW (by rfl)]
    refine GR vd (vd.alloc (.cells #[zu G,I (D.seq:Int)] 203)) (.tmp 38) (.tmp 45) rfl OV.out.1 TZ.out.1 TZ.out.2 (.slice MU n0 c0') tL.symm rfl (G,D.seq) rfl rfl ?_;intro mI nl gK wl hon;obtain⟨L2,hc2,g2',cs2,YU,cap2,VZ,rl,gl,Ra⟩:=hon;have Rb:wl.cell? (J A.V 27)=some (.slice MU n0 c0'):=(rl.bT 27 rfl).trans (congrArg some tL);have Rc:wl.frozen? (J A.V 27)=false:=rl.iE 27;have t1:=(rR.out _ _ (OV.out.2.trans gl)).2.1;have t4:=(rR.out _ _ (OV.out.2.trans gl)).2.2.2.2;have t22:wl.cell? (J A.V 22)=zt (D.seq:Int):=(rl.bT 22 rfl).trans (by rw[Lh.out.2.1]);have JK:=U (zA rl (zA (OV.out.2.trans gl) (by rw[Lh.out.1] at Ra;exact Ra)));clear VZ gl Ra;have Re:Hid (zS (wl.setCell (J A.V 27) (.slice mI nl gK)) b1 0 A.V 0∧zV (wl.setCell (J A.V 27) (.slice mI nl gK)) b4 0 G∧zT (wl.setCell (J A.V 27) (.slice mI nl gK)) A.V 22 (D.seq:Int)):=⟨(rR.out _ _ (JK.out.2.1.trans (rl.p8 (.slice mI nl gK) [] 0).2)).2.1,(rR.out _ _ (JK.out.2.1.trans (rl.p8 (.slice mI nl gK) [] 0).2)).2.2.2.2,by rw[World.cell?_setCell_other _ _ _ _ (by simp)];exact t22⟩;clear rl
    refine hK.out _ _ ?_ (fun aD=>?_)
    . (try dsimp only);exact⟨t1,t4,t22⟩
    clear hK K
    (try simp only[dK,dL,dM,Act.put,dN,dO,dP])
    refine gp (i:=14) rfl aD ?_
    (try simp only[dK,dL,dM,Act.put,dN,dO,dP])
    refine gp (i:=15) rfl aD ?_
    (try simp only[dK,dL,dM,Act.put,dN,dO,dP])
    refine gp (i:=16) rfl aD ?_
    (try simp only[dK,dL,dM,Act.put,dN,dO,dP])
    refine wpAnyH_ready (rs:=[17]) (by kernel_rfl) (by simp) ?_
    refine AllReadyH.cons (o:=_) rfl (fun K hK=>?_) AllReadyH.nil
    go_simp
    refine hK.out _ _ ?_ (fun aD=>?_)
    . (try dsimp only);exact Re.out
    clear hK K
    (try simp only[dK,dL,dM,Act.put,dN,dO,dP])
    refine wpAnyH_done (by kernel_rfl) ?_ _
   )
   all_goals (
    clear t1 t4 t22 aD LC Q8 Q9
    obtain⟨LD,LF,LG⟩:=JK.out
    obtain⟨r5,g5⟩:=LD.p8 (.slice mI nl gK) (D.cut++[(G,D.seq)]) (D.cuts+1)
    obtain⟨A2,hA2⟩:∃ A2:az,A2={A with L:=L2,hcut:=hc2,gu:=g2',eG:=cs2,jc:=.slice mI nl gK}:=⟨_,rfl⟩
    have FO:A2.V=A.V:=by rw[hA2]
    have V3:A2.L=L2:=by rw[hA2]
    have hso:kR A A2:=by rw[hA2];exact⟨⟨_,_,_,_,_,_,_,_,rfl⟩,rfl⟩
    have hck:jd A2 (D.cut++[(G,D.seq)]):=by rw[hA2];exact LG
    replace r5:aF A2 {yF with cut:=D.cut++[(G,D.seq)],cuts:=D.cuts+1} (wl.setCell (J A.V 27) (.slice mI nl gK)):=by rw[hA2];exact r5
    generalize jg:wl.setCell (J A.V 27) (.slice mI nl gK)=w5 at*
    have hg5:Grow A.L w A2.L w5:=by rw[V3];exact LF.trans g5
    have OW:=U (zA hso (zA FO hck))
    have hM:=o7 r5.drew F ak nx Y
    rw[FO] at hM
    have HM:=U hM
    clear hM Y hA2 hso hck LD LF LG g5 JK Rb Rc
    have FP:Hid (∀ bF E,aF A2 bF E->Grow A.L w A2.L E->zV E b0 0 ak∧zS E b1 0 A.V 0∧zV E b2 0 nx∧zT E b3 0 F∧zV E b4 0 G):=fun bF E r g=>rR.out _ E g
    have LH:Hid (∀ bF E x,aF A2 bF E->Grow A.L w A2.L E->zV (E.setCell (J A.V 25) x) b0 0 ak∧zS (E.setCell (J A.V 25) x) b1 0 A.V 0∧zV (E.setCell (J A.V 25) x) b2 0 nx∧zT (E.setCell (J A.V 25) x) b3 0 F∧zV (E.setCell (J A.V 25) x) b4 0 G):=fun bF E x r g=>by
     have h:=(r.fV x .now).2
     rw[FO] at h
     exact rR.out _ _ (g.trans h)
    obtain⟨g0,g1,g2,g3,g4⟩:=FP.out _ _ r5 hg5
    have Ua:=U (hg5.trans (Grow.drew A2.L w5))
    clear hg5 r5
    cases hkk:iK F ak nx with
    |none=>
     rw[hkk] at HM
     go_wp2_with fail
     go_region_held3 (fun E=>zV E b0 0 ak∧zS E b1 0 A.V 0∧zV E b2 0 nx∧zT E b3 0 F∧zV E b4 0 G)
      (first|exact⟨g0,g1,g2,g3,g4⟩|assumption|go_keep|exact FP.out _ _ (by assumption) (by assumption)|exact LH.out _ _ _ (by assumption) (by assumption))
      (first|(go_at_call 160;refine HM.out.mono ?_;rintro e w2 ⟨v,rfl,p1,p2,p3⟩;have e3:v=.nilFunc:=p3;subst e3;have z25:=p1.iE 25;obtain⟨vo,y25⟩:∃ vo,w2.cell? (J A2.V 25)=some vo:=⟨_,p1.bT 25 rfl⟩;rw[OW.out.2.1] at z25 y25;have q5:=Ua.out.trans p2;have HP:=U p3;have Rf:=U p2;clear p2 p3))
     go_wp2_with fail
     go_ret
     obtain⟨k1,k2,k3⟩:=OW.out
     obtain⟨A',a1,a2,a3,a4,a5⟩:=p1.fB _ _ HP.out
     rw[k2] at a3 a4 a5
     rw[hkk]
     exact⟨rfl,A',k1.trans a1,a3,q5.trans a4,a5,fun _=>rD.keep (A:=A2) (D:={yF with cut:=D.cut++[(G,D.seq)],cuts:=D.cuts+1}) (w:=w5) k3 a2 rfl (((Grow.drew A2.L w5).trans Rf.out).trans a4)⟩
    |some kx=>
     rw[hkk] at HM
     go_wp2_with fail
     go_region_held3 (fun E=>zV E b0 0 ak∧zS E b1 0 A.V 0∧zV E b2 0 nx∧zT E b3 0 F∧zV E b4 0 G)
      (first|exact⟨g0,g1,g2,g3,g4⟩|assumption|go_keep|exact FP.out _ _ (by assumption) (by assumption)|exact LH.out _ _ _ (by assumption) (by assumption))
      (first|(go_at_call 160;refine HM.out.mono ?_;rintro e w2 ⟨v,rfl,p1,p2,p3⟩;obtain⟨fv,fb,fc,e3⟩:=jA.form p3;subst e3;have z25:=p1.iE 25;obtain⟨vo,y25⟩:∃ vo,w2.cell? (J A2.V 25)=some vo:=⟨_,p1.bT 25 rfl⟩;rw[OW.out.2.1] at z25 y25;have q5:=Ua.out.trans p2;have HP:=U p3;have Rf:=U p2;clear p2 p3))
     go_wp2_with fail
     go_ret
     obtain⟨k1,k2,k3⟩:=OW.out
     obtain⟨A',a1,a2,a3,a4,a5⟩:=p1.fB _ _ HP.out
     rw[k2] at a3 a4 a5
     rw[hkk]
     exact⟨rfl,A',k1.trans a1,a3,q5.trans a4,a5,fun _=>rD.keep (A:=A2) (D:={yF with cut:=D.cut++[(G,D.seq)],cuts:=D.cuts+1}) (w:=w5) k3 a2 rfl (((Grow.drew A2.L w5).trans Rf.out).trans a4)⟩
   )
 . have f1:((ak:Int)=0)=False:=by have:=hah.lo;simp;rintro rfl;omega
   have f2:((ak:Int)==0)=false:=by have:=hah.lo;simp;rintro rfl;omega
   have f3:((ak:Int) !=0)=true:=by have:=hah.lo;simp;rintro rfl;omega
   have f4:(ak=0)=False:=by have:=hah.lo;simp;rintro rfl;omega
   have f5:ak≠0:=by rw[ne_eq,f4];exact not_false
   have HS:=U (eD ak 2 2 rfl hah.lo (by have:=hah.hi;omega) hah.u (by omega));have HST:Hid (∀ E,aF A D E->zk 47 #[R A.ba 0,I ((af ak 2:Nat):Int),zu nx] E (uL A E (D.put (af ak 2) nx) (.tuple #[]))):=fun E r=>gy r (af ak 2) nx (dD r hah.lo hah.hi (by omega)) aN
   have jU:D.aH (.cut F ak G nx)=({D.put (af ak 2) nx with cut:=D.cut++[(G,D.seq)],cuts:=D.cuts+1,sw:=iK F ak nx},true):=by simp only[St.aH];rw[aW f5]
   rw[jU];obtain⟨yF,FM⟩:∃ yF,yF=D.put (af ak 2) nx:=⟨_,rfl⟩
   have Lh:Hid (yF.cut=D.cut∧yF.seq=D.seq∧yF.cuts=D.cuts):=by rw[FM];exact⟨rfl,rfl,rfl⟩
   have TZ:Hid (jd A yF.cut∧yF.cut.length<1000000):=by rw[Lh.out.1];exact⟨hck,hln⟩
   rw[<-FM] at HST ⊢;clear hR aN B0 B1 B2 B3 B4 hsl jU hah FM hck hln f5;generalize ((af ak 2:Nat):Int)=ix at*;go_enter Tryz.func222,Tryz.ntmps222;go_wp2_with fail
   go_region_held3 (fun E=>zV E b0 0 ak∧zS E b1 0 A.V 0∧zV E b2 0 nx∧zT E b3 0 F∧zV E b4 0 G∧zS E A.V 2 A.ba 0)
    (first|exact⟨c0,c1,c2,c3,c4,e2⟩|assumption|go_keep|exact HKK.out _ _ (by assumption) (by assumption))
    (first|(go_at_call 85;refine (HS.out _).mono ?_;rintro e w9 ⟨rfl,rfl⟩)|(go_at_call 47;refine (HST.out _ nM.out).mono ?_;rintro e H ⟨rfl,q1,q2⟩;have q4:=HG.out.trans q2;clear q2))
   obtain⟨d0,d1,d2,d3,d4,d5⟩:=HKK.out _ _ q1 q4;have y27:H.cell? (J A.V 27)=some (.slice MU n0 c0'):=(q1.bT 27 rfl).trans (congrArg some tL);have z27:=q1.iE 27;have y22:H.cell? (J A.V 22)=zt (D.seq:Int):=(q1.bT 22 rfl).trans (by rw[Lh.out.2.1]);have HQ:=U (zA q1 q4);clear q1 q4;go_wp2_with fail;refine wp_region_held_drew (S:=fun E=>zS E b1 0 A.V 0∧zV E b4 0 G∧zT E A.V 22 (D.seq:Int)) (by kernel_rfl) ?_ (fun aD=>?_)
   . (try dsimp only);exact⟨d1,d4,y22⟩
   have OV:=U (zA HQ.out.1.drew (HQ.out.2.trans (Grow.drew A.L H)));have LC:H.drew.cell? (J A.V 27)=some (.slice MU n0 c0'):=y27;have Q8:H.drew.frozen? (J A.V 27)=false:=z27;clear d0 d1 d2 d3 d4 d5 y22 y27 z27 HQ;generalize H.drew=vd at*;have Q9:∀ ob,(vd.alloc ob).cell? (J A.V 27)=some (.slice MU n0 c0'):=fun ob=>bY LC
   refine gp (i:=0) rfl aD ?_
   (try simp only[dK,dL,dM,Act.put,dN,dO,dP])
   refine gp (i:=1) rfl aD ?_
   (try simp only[dK,dL,dM,Act.put,dN,dO,dP])
   refine gp (i:=2) rfl aD ?_
   (try simp only[dK,dL,dM,Act.put,dN,dO,dP])
   refine gp (i:=3) rfl aD ?_
   (try simp only[dK,dL,dM,Act.put,dN,dO,dP])
   refine gp (i:=4) rfl aD ?_
   (try simp only[dK,dL,dM,Act.put,dN,dO,dP])
   refine gp (i:=6) rfl aD ?_
   (try simp only[dK,dL,dM,Act.put,dN,dO,dP])
   refine gp (i:=7) rfl aD ?_
   (try simp only[dK,dL,dM,Act.put,dN,dO,dP])
   refine gp (i:=8) rfl aD ?_
   (try simp only[dK,dL,dM,Act.put,dN,dO,dP])
   refine gp (i:=9) rfl aD ?_
   (try simp only[dK,dL,dM,Act.put,dN,dO,dP])
   refine gp (i:=10) rfl aD ?_
   (try simp only[dK,dL,dM,Act.put,dN,dO,dP])
   refine gp (i:=11) rfl aD ?_
   (try simp only[dK,dL,dM,Act.put,dN,dO,dP])
   refine wpAnyH_ready (rs:=[5,12]) (by kernel_rfl) (by simp) ?_;refine AllReadyH.cons (o:=_) rfl (fun K hK=>?_) (AllReadyH.cons (o:=_) rfl (fun K hK=>?_) AllReadyH.nil)
   focus (
    go_simp
    refine hK.out _ _ ?_ (fun aD=>?_)
    . (try dsimp only);exact aD
    clear hK K
    (try simp only[dK,dL,dM,Act.put,dN,dO,dP])
    refine wpAnyH_ready (rs:=[12]) (by kernel_rfl) (by simp) ?_
    refine AllReadyH.cons (o:=_) rfl (fun K hK=>?_) AllReadyH.nil
    go_simp
    refine hK.out _ _ ?_ (fun aD=>?_)
    . (try dsimp only);exact⟨bY aD.1,bY aD.2.1,bY aD.2.2⟩
    clear hK K
    (try simp only[dK,dL,dM,Act.put,dN,dO,dP])
   )
   rotate_left
   focus (
    go_simp
    refine hK.out _ _ ?_ (fun aD=>?_)
    . (try dsimp only);exact⟨bY aD.1,bY aD.2.1,bY aD.2.2⟩
    clear hK K
    (try simp only[dK,dL,dM,Act.put,dN,dO,dP])
    refine wpAnyH_ready (rs:=[5]) (by kernel_rfl) (by simp) ?_
    refine AllReadyH.cons (o:=_) rfl (fun K hK=>?_) AllReadyH.nil
    go_simp
    refine hK.out _ _ ?_ (fun aD=>?_)
    . (try dsimp only);exact aD
    clear hK K
    (try simp only[dK,dL,dM,Act.put,dN,dO,dP])
   )
   rotate_left
   all_goals (
    refine wpAnyH_ready (rs:=[13]) (by kernel_rfl) (by simp) ?_
    refine AllReadyH.cons (o:=_) rfl (fun K hK=>?_) AllReadyH.nil
    rw[aW (by rfl)]
    refine GR vd (vd.alloc (.cells #[zu G,I (D.seq:Int)] 203)) (.tmp 38) (.tmp 45) rfl OV.out.1 TZ.out.1 TZ.out.2 (.slice MU n0 c0') tL.symm rfl (G,D.seq) rfl rfl ?_;intro mI nl gK wl hon;obtain⟨L2,hc2,g2',cs2,YU,cap2,VZ,rl,gl,Ra⟩:=hon;have Rb:wl.cell? (J A.V 27)=some (.slice MU n0 c0'):=(rl.bT 27 rfl).trans (congrArg some tL);have Rc:wl.frozen? (J A.V 27)=false:=rl.iE 27;have t1:=(rR.out _ _ (OV.out.2.trans gl)).2.1;have t4:=(rR.out _ _ (OV.out.2.trans gl)).2.2.2.2;have t22:wl.cell? (J A.V 22)=zt (D.seq:Int):=(rl.bT 22 rfl).trans (by rw[Lh.out.2.1]);have JK:=U (zA rl (zA (OV.out.2.trans gl) (by rw[Lh.out.1] at Ra;exact Ra)));clear VZ gl Ra;have Re:Hid (zS (wl.setCell (J A.V 27) (.slice mI nl gK)) b1 0 A.V 0∧zV (wl.setCell (J A.V 27) (.slice mI nl gK)) b4 0 G∧zT (wl.setCell (J A.V 27) (.slice mI nl gK)) A.V 22 (D.seq:Int)):=⟨(rR.out _ _ (JK.out.2.1.trans (rl.p8 (.slice mI nl gK) [] 0).2)).2.1,(rR.out _ _ (JK.out.2.1.trans (rl.p8 (.slice mI nl gK) [] 0).2)).2.2.2.2,by rw[World.cell?_setCell_other _ _ _ _ (by simp)];exact t22⟩;clear rl
    refine hK.out _ _ ?_ (fun aD=>?_)
    . (try dsimp only);exact⟨t1,t4,t22⟩
    clear hK K
    (try simp only[dK,dL,dM,Act.put,dN,dO,dP])
    refine gp (i:=14) rfl aD ?_
    (try simp only[dK,dL,dM,Act.put,dN,dO,dP])
    refine gp (i:=15) rfl aD ?_
    (try simp only[dK,dL,dM,Act.put,dN,dO,dP])
    refine gp (i:=16) rfl aD ?_
    (try simp only[dK,dL,dM,Act.put,dN,dO,dP])
    refine wpAnyH_ready (rs:=[17]) (by kernel_rfl) (by simp) ?_
    refine AllReadyH.cons (o:=_) rfl (fun K hK=>?_) AllReadyH.nil
    go_simp
    refine hK.out _ _ ?_ (fun aD=>?_)
    . (try dsimp only);exact Re.out
    clear hK K
    (try simp only[dK,dL,dM,Act.put,dN,dO,dP])
    refine wpAnyH_done (by kernel_rfl) ?_ _
   )
   all_goals (
    clear t1 t4 t22 aD LC Q8 Q9
    obtain⟨LD,LF,LG⟩:=JK.out
    obtain⟨r5,g5⟩:=LD.p8 (.slice mI nl gK) (D.cut++[(G,D.seq)]) (D.cuts+1)
    obtain⟨A2,hA2⟩:∃ A2:az,A2={A with L:=L2,hcut:=hc2,gu:=g2',eG:=cs2,jc:=.slice mI nl gK}:=⟨_,rfl⟩
    have FO:A2.V=A.V:=by rw[hA2]
    have V3:A2.L=L2:=by rw[hA2]
    have hso:kR A A2:=by rw[hA2];exact⟨⟨_,_,_,_,_,_,_,_,rfl⟩,rfl⟩
    have hck:jd A2 (D.cut++[(G,D.seq)]):=by rw[hA2];exact LG
    replace r5:aF A2 {yF with cut:=D.cut++[(G,D.seq)],cuts:=D.cuts+1} (wl.setCell (J A.V 27) (.slice mI nl gK)):=by rw[hA2];exact r5
    generalize jg:wl.setCell (J A.V 27) (.slice mI nl gK)=w5 at*
    have hg5:Grow A.L w A2.L w5:=by rw[V3];exact LF.trans g5
    have OW:=U (zA hso (zA FO hck))
    have hM:=o7 r5.drew F ak nx Y
    rw[FO] at hM
    have HM:=U hM
    clear hM Y hA2 hso hck LD LF LG g5 JK Rb Rc
    have FP:Hid (∀ bF E,aF A2 bF E->Grow A.L w A2.L E->zV E b0 0 ak∧zS E b1 0 A.V 0∧zV E b2 0 nx∧zT E b3 0 F∧zV E b4 0 G):=fun bF E r g=>rR.out _ E g
    have LH:Hid (∀ bF E x,aF A2 bF E->Grow A.L w A2.L E->zV (E.setCell (J A.V 25) x) b0 0 ak∧zS (E.setCell (J A.V 25) x) b1 0 A.V 0∧zV (E.setCell (J A.V 25) x) b2 0 nx∧zT (E.setCell (J A.V 25) x) b3 0 F∧zV (E.setCell (J A.V 25) x) b4 0 G):=fun bF E x r g=>by
     have h:=(r.fV x .now).2
     rw[FO] at h
     exact rR.out _ _ (g.trans h)
    obtain⟨g0,g1,g2,g3,g4⟩:=FP.out _ _ r5 hg5
    have Ua:=U (hg5.trans (Grow.drew A2.L w5))
    clear hg5 r5
    cases hkk:iK F ak nx with
    |none=>
     rw[hkk] at HM
     go_wp2_with fail
     go_region_held3 (fun E=>zV E b0 0 ak∧zS E b1 0 A.V 0∧zV E b2 0 nx∧zT E b3 0 F∧zV E b4 0 G)
      (first|exact⟨g0,g1,g2,g3,g4⟩|assumption|go_keep|exact FP.out _ _ (by assumption) (by assumption)|exact LH.out _ _ _ (by assumption) (by assumption))
      (first|(go_at_call 160;refine HM.out.mono ?_;rintro e w2 ⟨v,rfl,p1,p2,p3⟩;have e3:v=.nilFunc:=p3;subst e3;have z25:=p1.iE 25;obtain⟨vo,y25⟩:∃ vo,w2.cell? (J A2.V 25)=some vo:=⟨_,p1.bT 25 rfl⟩;rw[OW.out.2.1] at z25 y25;have q5:=Ua.out.trans p2;have HP:=U p3;have Rf:=U p2;clear p2 p3))
     go_wp2_with fail
     go_ret
     obtain⟨k1,k2,k3⟩:=OW.out
     obtain⟨A',a1,a2,a3,a4,a5⟩:=p1.fB _ _ HP.out
     rw[k2] at a3 a4 a5
     rw[hkk]
     exact⟨rfl,A',k1.trans a1,a3,q5.trans a4,a5,fun _=>rD.keep (A:=A2) (D:={yF with cut:=D.cut++[(G,D.seq)],cuts:=D.cuts+1}) (w:=w5) k3 a2 rfl (((Grow.drew A2.L w5).trans Rf.out).trans a4)⟩
    |some kx=>
     rw[hkk] at HM
     go_wp2_with fail
     go_region_held3 (fun E=>zV E b0 0 ak∧zS E b1 0 A.V 0∧zV E b2 0 nx∧zT E b3 0 F∧zV E b4 0 G)
      (first|exact⟨g0,g1,g2,g3,g4⟩|assumption|go_keep|exact FP.out _ _ (by assumption) (by assumption)|exact LH.out _ _ _ (by assumption) (by assumption))
      (first|(go_at_call 160;refine HM.out.mono ?_;rintro e w2 ⟨v,rfl,p1,p2,p3⟩;obtain⟨fv,fb,fc,e3⟩:=jA.form p3;subst e3;have z25:=p1.iE 25;obtain⟨vo,y25⟩:∃ vo,w2.cell? (J A2.V 25)=some vo:=⟨_,p1.bT 25 rfl⟩;rw[OW.out.2.1] at z25 y25;have q5:=Ua.out.trans p2;have HP:=U p3;have Rf:=U p2;clear p2 p3))
     go_wp2_with fail
     go_ret
     obtain⟨k1,k2,k3⟩:=OW.out
     obtain⟨A',a1,a2,a3,a4,a5⟩:=p1.fB _ _ HP.out
     rw[k2] at a3 a4 a5
     rw[hkk]
     exact⟨rfl,A',k1.trans a1,a3,q5.trans a4,a5,fun _=>rD.keep (A:=A2) (D:={yF with cut:=D.cut++[(G,D.seq)],cuts:=D.cuts+1}) (w:=w5) k3 a2 rfl (((Grow.drew A2.L w5).trans Rf.out).trans a4)⟩
   )
theorem FQ (hR:aF A D w) (F ak G id:Nat) (hid:id<=65535) (hpl:D.place id<D.words.length) (hw:D.word (D.place id)<18446744073709551616) (h4:(bA (D.word (D.place id))=4)=True) (aN:D.count<4000000000000000000) (b0:Nat) (b1:Nat) (b2:Nat) (b3:Nat) (b4:Nat) (B0:aP A.L w b0 (R A.V 0)) (B1:aP A.L w b1 (I id)) (B2:aP A.L w b2 (I F)) (B3:aP A.L w b3 (zu ak)) (B4:aP A.L w b4 (zu G)):
 zk 195 #[R b0 0,R b1 0,R b2 0,R b3 0,R b4 0] w (sN A D w (D.aH (.maker F ak G id))):=by
 have c0:=B0.cell;have c1:=B1.cell;have c2:=B2.cell;have c3:=B3.cell;have c4:=B4.cell;have e2:=hR.z2;have QR:=U (eY hR.drew id hid);have HU:=U (fun E=>iX (D.word (D.place id)) hw E);have HL:Hid (∀ E,aF A D E->zk 42 #[R A.ba 0,I (((D.place id:Nat):Int))] E (uL A E D.tick (zu (D.word (D.place id):Int)))):=fun E r=>iP r (D.place id) (((D.place id:Nat):Int)) rfl hpl aN
 have nM:Hid (aF A D w.drew):=hR.drew;have HKK:Hid (∀ E,aF A D.tick E->Grow A.L w A.L E->zS E b0 0 A.V 0∧zT E b1 0 id∧zT E b2 0 F∧zV E b3 0 ak∧zV E b4 0 G∧zS E A.V 2 A.ba 0):=fun E r g=>⟨(B0.grow g).cell,(B1.grow g).cell,(B2.grow g).cell,(B3.grow g).cell,(B4.grow g).cell,r.bT 2 rfl⟩
 have uS:Hid (∀ E x,aF A D.tick E->Grow A.L w A.L E->zS (E.setCell (J A.V 25) x) b0 0 A.V 0∧zT (E.setCell (J A.V 25) x) b1 0 id∧zT (E.setCell (J A.V 25) x) b2 0 F∧zV (E.setCell (J A.V 25) x) b3 0 ak∧zV (E.setCell (J A.V 25) x) b4 0 G∧zS (E.setCell (J A.V 25) x) A.V 2 A.ba 0):=fun E x r g=>let ⟨r',g'⟩:=r.fV x .now;⟨(B0.grow (g.trans g')).cell,(B1.grow (g.trans g')).cell,(B2.grow (g.trans g')).cell,(B3.grow (g.trans g')).cell,(B4.grow (g.trans g')).cell,r'.bT 2 rfl⟩
 have HM:Hid (∀ E,aF A D.tick E->zk 196 #[R A.V 0,I F,zu ak,zu G] E (iQ A D.tick E (some (.unlink F ak G)))):=fun E r=>uR r F ak G
 have HG:=zG A.L w;clear hR aN B0 B1 B2 B3 B4;have jU:D.aH (.maker F ak G id)=({D.tick with sw:=some (.unlink F ak G)},false):=by simp only[St.aH,h4];rfl
 rw[jU];have f1:((bA (D.word (D.place id)):Int)=4)=True:=by have:=h4;simp at this ⊢;omega
 have f2:((bA (D.word (D.place id)):Int)==4)=true:=by have:=h4;simp at this ⊢;omega
 clear hid hpl hw h4;generalize (bA (D.word (D.place id)):Int)=zs at*;generalize (il (D.word (D.place id)):Int)=ze at*;generalize (D.word (D.place id):Int)=hd at*;generalize ((D.place id:Nat):Int)=ix at*;go_enter Tryz.func195,Tryz.ntmps195;go_wp2_with fail
 go_region_held3 (fun E=>zS E b0 0 A.V 0∧zT E b1 0 id∧zT E b2 0 F∧zV E b3 0 ak∧zV E b4 0 G∧zS E A.V 2 A.ba 0)
  (first|exact⟨c0,c1,c2,c3,c4,e2⟩|assumption|go_keep|exact HKK.out _ (by assumption) (by assumption))
  (first|(go_at_call 48;refine QR.out.mono ?_;rintro e w9 ⟨rfl,rfl⟩)|(go_at_call 42;refine (HL.out _ nM.out).mono ?_;rintro e H ⟨rfl,q1,q2⟩;have q4:=HG.out.trans q2)|(go_at_call 109;refine (HU.out _).mono ?_;rintro e w9 ⟨rfl,rfl⟩))
 obtain⟨d0,d1,d2,d3,d4,d9⟩:=HKK.out _ q1 q4;have tZ:=U q1.drew;have AX:=U (q4.trans (Grow.drew _ _));go_wp2_with fail
 go_region_held3 (fun E=>zS E b0 0 A.V 0∧zT E b1 0 id∧zT E b2 0 F∧zV E b3 0 ak∧zV E b4 0 G∧zS E A.V 2 A.ba 0)
  (first|exact⟨d0,d1,d2,d3,d4,d9⟩|assumption|go_keep|exact HKK.out _ (by assumption) (by assumption)|exact uS.out _ _ (by assumption) (by assumption))
  (first|(go_at_call 196;refine (HM.out _ tZ.out).mono ?_;rintro e w2 ⟨v,rfl,p1,p2,p3⟩;obtain⟨fv,fb,fc,e3⟩:=jA.form p3;subst e3;obtain⟨vo,y25⟩:∃ vo,w2.cell? (J A.V 25)=some vo:=⟨_,p1.bT 25 (v:=A.sv D.tick.sw) rfl⟩;have z25:=p1.iE 25;have q5:=AX.out.trans p2;have HP:=U p3;clear p2 p3))
 go_wp2_with fail;go_ret;obtain⟨A',a1,a2,a3,a4,a5⟩:=p1.fB _ _ HP.out;exact⟨rfl,A',a1,a3,q5.trans a4,a5,fun hc=>hc.keep a2 rfl (q5.trans a4)⟩
theorem FT (hR:aF A D w) (F ak G id:Nat) (hid:id<=65535) (hpl:D.place id<D.words.length) (hw:D.word (D.place id)<18446744073709551616) (h4:(bA (D.word (D.place id))=4)=False) (aN:D.count<4000000000000000000) (b0:Nat) (b1:Nat) (b2:Nat) (b3:Nat) (b4:Nat) (B0:aP A.L w b0 (R A.V 0)) (B1:aP A.L w b1 (I id)) (B2:aP A.L w b2 (I F)) (B3:aP A.L w b3 (zu ak)) (B4:aP A.L w b4 (zu G)):
 zk 195 #[R b0 0,R b1 0,R b2 0,R b3 0,R b4 0] w (sN A D w (D.aH (.maker F ak G id))):=by
 have c0:=B0.cell;have c1:=B1.cell;have c2:=B2.cell;have c3:=B3.cell;have c4:=B4.cell;have e2:=hR.z2;have QR:=U (eY hR.drew id hid);have HU:=U (fun E=>iX (D.word (D.place id)) hw E);have HL:Hid (∀ E,aF A D E->zk 42 #[R A.ba 0,I (((D.place id:Nat):Int))] E (uL A E D.tick (zu (D.word (D.place id):Int)))):=fun E r=>iP r (D.place id) (((D.place id:Nat):Int)) rfl hpl aN
 have nM:Hid (aF A D w.drew):=hR.drew;have HKK:Hid (∀ E,aF A D.tick E->Grow A.L w A.L E->zS E b0 0 A.V 0∧zT E b1 0 id∧zT E b2 0 F∧zV E b3 0 ak∧zV E b4 0 G∧zS E A.V 2 A.ba 0):=fun E r g=>⟨(B0.grow g).cell,(B1.grow g).cell,(B2.grow g).cell,(B3.grow g).cell,(B4.grow g).cell,r.bT 2 rfl⟩
 have uS:Hid (∀ E x,aF A D.tick E->Grow A.L w A.L E->zS (E.setCell (J A.V 25) x) b0 0 A.V 0∧zT (E.setCell (J A.V 25) x) b1 0 id∧zT (E.setCell (J A.V 25) x) b2 0 F∧zV (E.setCell (J A.V 25) x) b3 0 ak∧zV (E.setCell (J A.V 25) x) b4 0 G∧zS (E.setCell (J A.V 25) x) A.V 2 A.ba 0):=fun E x r g=>let ⟨r',g'⟩:=r.fV x .now;⟨(B0.grow (g.trans g')).cell,(B1.grow (g.trans g')).cell,(B2.grow (g.trans g')).cell,(B3.grow (g.trans g')).cell,(B4.grow (g.trans g')).cell,r'.bT 2 rfl⟩
 have HM:Hid (∀ E,aF A D.tick E->zk 197 #[R A.V 0,I F,zu G] E (iQ A D.tick E (some (.on F G)))):=fun E r=>G9 r F G
 have HG:=zG A.L w;clear hR aN B0 B1 B2 B3 B4;have jU:D.aH (.maker F ak G id)=({D.tick with sw:=some (.on F G)},false):=by simp only[St.aH,h4];rfl
 rw[jU];have f1:((bA (D.word (D.place id)):Int)=4)=False:=by have:=h4;simp at this ⊢;omega
 have f2:((bA (D.word (D.place id)):Int)==4)=false:=by have:=h4;simp at this ⊢;omega
 clear hid hpl hw h4;generalize (bA (D.word (D.place id)):Int)=zs at*;generalize (il (D.word (D.place id)):Int)=ze at*;generalize (D.word (D.place id):Int)=hd at*;generalize ((D.place id:Nat):Int)=ix at*;go_enter Tryz.func195,Tryz.ntmps195;go_wp2_with fail
 go_region_held3 (fun E=>zS E b0 0 A.V 0∧zT E b1 0 id∧zT E b2 0 F∧zV E b3 0 ak∧zV E b4 0 G∧zS E A.V 2 A.ba 0)
  (first|exact⟨c0,c1,c2,c3,c4,e2⟩|assumption|go_keep|exact HKK.out _ (by assumption) (by assumption))
  (first|(go_at_call 48;refine QR.out.mono ?_;rintro e w9 ⟨rfl,rfl⟩)|(go_at_call 42;refine (HL.out _ nM.out).mono ?_;rintro e H ⟨rfl,q1,q2⟩;have q4:=HG.out.trans q2)|(go_at_call 109;refine (HU.out _).mono ?_;rintro e w9 ⟨rfl,rfl⟩))
 obtain⟨d0,d1,d2,d3,d4,d9⟩:=HKK.out _ q1 q4;have tZ:=U q1.drew;have AX:=U (q4.trans (Grow.drew _ _));go_wp2_with fail
 go_region_held3 (fun E=>zS E b0 0 A.V 0∧zT E b1 0 id∧zT E b2 0 F∧zV E b3 0 ak∧zV E b4 0 G∧zS E A.V 2 A.ba 0)
  (first|exact⟨d0,d1,d2,d3,d4,d9⟩|assumption|go_keep|exact HKK.out _ (by assumption) (by assumption)|exact uS.out _ _ (by assumption) (by assumption))
  (first|(go_at_call 197;refine (HM.out _ tZ.out).mono ?_;rintro e w2 ⟨v,rfl,p1,p2,p3⟩;obtain⟨fv,fb,fc,e3⟩:=jA.form p3;subst e3;obtain⟨vo,y25⟩:∃ vo,w2.cell? (J A.V 25)=some vo:=⟨_,p1.bT 25 (v:=A.sv D.tick.sw) rfl⟩;have z25:=p1.iE 25;have q5:=AX.out.trans p2;have HP:=U p3;clear p2 p3))
 go_wp2_with fail;go_ret;obtain⟨A',a1,a2,a3,a4,a5⟩:=p1.fB _ _ HP.out;exact⟨rfl,A',a1,a3,q5.trans a4,a5,fun hc=>hc.keep a2 rfl (q5.trans a4)⟩
theorem Je (hR:aF A D w) (hC:jd A D.cut) (hcut:D.cut=[]):
 zk 73 #[R A.V 0] w fun e E=>e=.returned (.bool false)∧Below w.heap.size w E:=by
 have y:w.cell? (J A.V 27)=some A.jc:=hR.bT 27 rfl;obtain⟨a,c,e⟩:∃ a c,A.jc=.slice a 0 c:=by
  rcases hC with ⟨-,h,-⟩|⟨-,k,cap,h,-⟩
  . exact⟨_,_,h⟩
  . rw[hcut] at h;exact⟨_,_,h⟩
 rw[e] at y;clear hR hcut e hC;go_enter Tryz.func73,Tryz.ntmps73;go_wp2;go_ret;exact⟨rfl,Below.refl _ _⟩
theorem DR (v:Nat->Value) (k:Nat) (Y:k<8) (w:World):(Instr.index 106 (.agg #[v 0,v 1,v 2,v 3,v 4,v 5,v 6,v 7]) (I k)).run Tryz.prog w=.ok (v k) w:=by
 have h:k=0∨k=1∨k=2∨k=3∨k=4∨k=5∨k=6∨k=7:=by omega
 rcases h with rfl|rfl|rfl|rfl|rfl|rfl|rfl|rfl<;>rfl
def behind (seq:Nat) (c:Option dY):Bool:=match c with|some c=>decide (seq<c.seq)|none=>true
def Ub (A:az) (D:St) (w:World) (G seq:Nat) (rest:List (Nat×Nat)):Ending->World->Prop:=fun e E=>
 (∃ q,q<8∧behind seq (D.calls.getD q none)=false∧e=.returned (.bool false)∧Below w.heap.size w E)∨
 ((∀ q,q<8->behind seq (D.calls.getD q none)=true)∧e=.returned (.bool true)∧∃ A',kR A A'∧A'.eP=A.eP∧aF A' {D.give G with cut:=rest} E∧Grow A.L w A'.L E∧jd A' rest)
theorem zJ (hL:Live A D w) (G seq:Nat) (rest:List (Nat×Nat)) (hv:VL D G) (hp:iY D) (hcut:D.cut=(G,seq)::rest) (hln:D.cut.length<1000000):
 zk 73 #[R A.V 0] w (Ub A D w G seq rest):=by
 have hR:=hL.rep;have hck:=hL.sx.cu;rw[hcut] at hck;obtain⟨kk,c,hh,tL,hn1,hcm,hkl,hct,hc0,hc1⟩:=hck.tail;have he:bB A D .cut=.obj A.gu A.eG 203:=by simp only[bB,hh,cond_true]
 have ZX:w.cell? ⟨A.gu,2*kk,none⟩=zv G:=hR.mem.cell he (2*kk) hc0;have ZY:w.cell? ⟨A.gu,2*kk+1,none⟩=zt seq:=hR.mem.cell he (2*kk+1) hc1;obtain⟨nr,hnr⟩:∃ nr,nr=rest.length+1:=⟨_,rfl⟩
 rw[<-hnr] at tL hn1;have y27:w.cell? (J A.V 27)=some (.slice (some ⟨A.gu,2*kk,none⟩) nr c):=(hR.bT 27 rfl).trans (congrArg some tL);have y3:w.cell? (J A.V 3)=zs A.bp 0:=hR.bT 3 rfl;obtain⟨vc,wY⟩:∃ vc:Nat->Value,vc=A.bH:=⟨_,rfl⟩
 have z0:w.cell? (J A.V 13)=some (vc 0):=(hR.bT 13 (v:=A.bH 0) rfl).trans (by rw[wY]);have z1:w.cell? (J A.V 14)=some (vc 1):=(hR.bT 14 (v:=A.bH 1) rfl).trans (by rw[wY]);have z2:w.cell? (J A.V 15)=some (vc 2):=(hR.bT 15 (v:=A.bH 2) rfl).trans (by rw[wY]);have z3:w.cell? (J A.V 16)=some (vc 3):=(hR.bT 16 (v:=A.bH 3) rfl).trans (by rw[wY]);have z4:w.cell? (J A.V 17)=some (vc 4):=(hR.bT 17 (v:=A.bH 4) rfl).trans (by rw[wY]);have z5:w.cell? (J A.V 18)=some (vc 5):=(hR.bT 18 (v:=A.bH 5) rfl).trans (by rw[wY]);have z6:w.cell? (J A.V 19)=some (vc 6):=(hR.bT 19 (v:=A.bH 6) rfl).trans (by rw[wY]);have z7:w.cell? (J A.V 20)=some (vc 7):=(hR.bT 20 (v:=A.bH 7) rfl).trans (by rw[wY]);have YV:((nr:Int)==0)=false:=by simp;omega
 have YW:((nr:Int)=0)=False:=by simp;omega
 have YX:(nr=0)=False:=by simp;omega
 have YY:((0:Int)<(nr:Int))=True:=by simp;omega
 have YZ:(0<nr)=True:=by simp;omega
 have Uc:=U (zA hnr hn1);have HX:=U (zA hL (zA hv (zA hp (zA wY hct))));have Y0:Hid (∀ k,k<8->∀ H,Below w.heap.size w H->vc k=.pointer none∧behind seq (D.calls.getD k none)=true∨∃ (b cq:Nat),vc k=R b 0∧zT H b 12 cq∧behind seq (D.calls.getD k none)=decide (seq<cq)):=fun k Y H Z=>by
  rw[wY]
  cases hcc:D.calls.getD k none with
  |none=>exact .inl ⟨hL.idle k Y hcc,rfl⟩
  |some cc=>
   refine .inr ⟨A.bc k,cc.seq,(hL.call k Y cc hcc).1,?_,rfl⟩;exact (hR.below Z).call hcc 12 rfl
 have RP:Hid (∀ H,Below w.heap.size w H->zS H A.V 3 A.bp 0∧H.cell? (J A.V 27)=some (.slice (some ⟨A.gu,2*kk,none⟩) nr c)∧H.cell? ⟨A.gu,2*kk,none⟩=zv G∧H.cell? ⟨A.gu,2*kk+1,none⟩=zt seq):=fun H Z=>by
  have r:=hR.below Z;exact⟨r.bT 3 rfl,(r.bT 27 rfl).trans (congrArg some tL),r.mem.cell he (2*kk) hc0,r.mem.cell he (2*kk+1) hc1⟩
 have XD:Hid (∀ A' w2,oG A A'->aF A' (D.give G) w2->zS w2 A.V 3 A.bp 0∧w2.cell? (J A.V 27)=some (.slice (some ⟨A.gu,2*kk,none⟩) nr c)∧w2.cell? ⟨A.gu,2*kk,none⟩=zv G∧w2.cell? ⟨A.gu,2*kk+1,none⟩=zt seq):=fun A' w2 hfo r=>by
  obtain⟨L,v,rfl⟩:=hfo;exact⟨r.bT 3 rfl,(r.bT 27 rfl).trans (congrArg some tL),r.mem.cell (r:=.cut) (b:=A.gu) (cs:=A.eG) (by simp only[bB,hh,cond_true];rfl) (2*kk) hc0,r.mem.cell (r:=.cut) (b:=A.gu) (cs:=A.eG) (by simp only[bB,hh,cond_true];rfl) (2*kk+1) hc1⟩
 clear hR hv hp hL hck hct hc0 hc1 hh he hkl hcut hln tL wY hnr hn1;go_enter Tryz.func73,Tryz.ntmps73;go_wp2_with fail
 go_loopw [19] (fun i wr=>∃ k:Nat,k<=8∧i=I k∧Below w.heap.size w wr∧∀ q,q<k->behind seq (D.calls.getD q none)=true) (fun i _=>8 - (intOf i).toNat)
 case atStart=>exact⟨0,by omega,rfl,Below.refl _ _,fun q h=>absurd h (by omega)⟩
 case round=>
  obtain⟨k,Y,rfl,Z,hbe⟩:=hrel;have HB:=U (zA Z hbe);clear Z hbe
  by_cases hlt:k<8
  . have k1:((k:Int)<8)=True:=by simp;omega
    have k2:decide ((k:Int)<8)=true:=by simp;omega
    have k3:IntKind.i64.wrap ((k:Int)+1)=(k:Int)+1:=by rw[je];omega
    have hix:=DR vc k hlt;obtain⟨x3,x27,XE,XF⟩:=RP.out _ HB.out.1
    rcases Y0.out k hlt _ HB.out.1 with ⟨e1,e2⟩|⟨b,cq,e1,e2,e3⟩
    . rw[e1] at hix
      have HK:=U (zA hlt e2);clear hlt Y e2;go_wp2_with (refine bZ rfl (.tmp 18) (.tmp 19) 106 rfl (hix _) ?_)
      go_quiet (fail)
      go_wp2_with fail;exact⟨⟨k+1,by have:=HK.out.1;omega,rfl,HB.out.1.trans ⟨rfl,rfl,rfl,zr _,fun _ _=>rfl⟩,fun q hq=>by by_cases h:q=k;rw[h];exact HK.out.2;exact HB.out.2 q (by omega)⟩,by have:=HK.out.1;simp[intOf];omega⟩
    . rw[e1] at hix
      have HK:=U (zA hlt e3);clear hlt Y e3
      by_cases hq:seq<cq
      . have q1:((cq:Int)<=(seq:Int))=False:=by simp;omega
        have q2:decide ((cq:Int)<=(seq:Int))=false:=by simp;omega
        have q3:(cq<=seq)=False:=by simp;omega
        have q4:decide (cq<=seq)=false:=by simp;omega
        go_wp2_with (refine bZ rfl (.tmp 18) (.tmp 19) 106 rfl (hix _) ?_)
        go_quiet (fail)
        go_wp2_with fail;exact⟨⟨k+1,by have:=HK.out.1;omega,rfl,HB.out.1.trans ⟨rfl,rfl,rfl,zr _,fun _ _=>rfl⟩,fun q hqk=>by by_cases h:q=k;rw[h,HK.out.2];simpa using hq;exact HB.out.2 q (by omega)⟩,by have:=HK.out.1;simp[intOf];omega⟩
      . have q1:((cq:Int)<=(seq:Int))=True:=by simp;omega
        have q2:decide ((cq:Int)<=(seq:Int))=true:=by simp;omega
        have q3:(cq<=seq)=True:=by simp;omega
        have q4:decide (cq<=seq)=true:=by simp;omega
        go_wp2_with (refine bZ rfl (.tmp 18) (.tmp 19) 106 rfl (hix _) ?_)
        go_quiet (fail)
        go_wp2_with fail;go_ret;exact .inl ⟨k,HK.out.1,by rw[HK.out.2];simpa using hq,rfl,HB.out.1.trans ⟨rfl,rfl,rfl,zr _,fun _ _=>rfl⟩⟩
  . obtain rfl:k=8:=by omega
    have k1:(((8:Nat):Int)<8)=False:=by simp
    have k2:decide (((8:Nat):Int)<8)=false:=by simp
    obtain⟨x3,x27,XE,XF⟩:=RP.out _ HB.out.1;have hRr:=HX.out.1.rep.below HB.out.1;have Y1:=U (CJ hRr.drew G HX.out.2.1 HX.out.2.2.1);have VU:=U ((HB.out.1).drew);clear hRr Y;go_wp2_with fail
    go_region_held3 (fun E=>zS E A.V 3 A.bp 0∧E.cell? (J A.V 27)=some (.slice (some ⟨A.gu,2*kk,none⟩) nr c)∧E.cell? ⟨A.gu,2*kk,none⟩=zv G∧E.cell? ⟨A.gu,2*kk+1,none⟩=zt seq)
     (first|exact⟨x3,x27,XE,XF⟩|assumption|go_keep|exact XD.out _ _ (by assumption) (by assumption))
     (first|(go_at_call 100;refine Y1.out.mono ?_;rintro e w2 ⟨⟨zz,rfl⟩,A',p0,p1,p2⟩))
    obtain⟨_,Y2,_⟩:=XD.out _ _ p0 p1;have z27:=p1.iE 27;have b1:A'.V=A.V:=by obtain⟨L,v,rfl⟩:=p0;rfl
    have hvs:A'.eP=A.eP:=by obtain⟨L,v,rfl⟩:=p0;rfl
    have hso:kR A A':=by obtain⟨L,v,rfl⟩:=p0;exact⟨⟨_,_,_,_,_,_,_,_,rfl⟩,rfl⟩
    rw[b1] at z27;have hck:jd {A' with jc:=.slice (if c=1 then some ⟨A.gu,2*kk,none⟩ else some ⟨A.gu,2*kk+2,none⟩) (nr - 1) (c - 1)} rest:=by
     rw[show nr - 1=rest.length by have:=Uc.out.1;omega];obtain⟨L,v,rfl⟩:=p0;exact HX.out.2.2.2.2
    have ZZ:((1:Int)<=(nr:Int))=True:=by have:=Uc.out;simp;omega
    have Y3:(1<=nr)=True:=by have:=Uc.out;simp;omega
    have h1c:((1:Int)<=(c:Int))=True:=by have:=Uc.out;simp;omega
    have hc2:¬ ((c:Int)<1):=by have:=Uc.out;omega
    have HF:=U (zA p1 (zA ((Grow.below (L:=A.L) VU.out).trans p2) (zA b1 (zA hso (zA hvs hck)))));clear p0 p1 p2 b1 hso hvs hck;go_wp2_with fail
    all_goals
     go_ret;obtain⟨p1,p2,b1,hso,hvs,hck⟩:=HF.out;rw[<-b1];refine .inr ⟨HB.out.2,rfl,_,?_,?_,(p1.p8 _ rest (D.give G).cuts).1,p2.trans (p1.p8 _ rest (D.give G).cuts).2,?_⟩;rotate_left;exact hvs;rotate_left;exact hso.trans ⟨⟨_,_,_,_,_,_,_,_,rfl⟩,rfl⟩
     by_cases hq:c=1
     . rw[aW hq] at hck
       have e0:c - 1=0:=by omega
       rw[e0] at hck
       first|exact hck|exact absurd hq (by assumption)
     . rw[bu hq] at hck
       first|exact hck|exact absurd (by assumption) hq
end Go.Proofs.YthicolbbmjfkfaaGreat.Em
