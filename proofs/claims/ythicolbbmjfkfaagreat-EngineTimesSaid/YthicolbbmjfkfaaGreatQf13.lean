import Derived.Test.YthicolbbmjfkfaaGreatQf11
import Derived.Test.YthicolbbmjfkfaaGreatQf10
set_option linter.unusedVariables false
set_option linter.unusedSimpArgs false
set_option maxRecDepth 100000
set_option maxHeartbeats 1600000
namespace Go.Proofs.YthicolbbmjfkfaaGreat.Em
open Go.ChangeShapes Go.WideShapes Go.ChangeAt Go.RowKit En
theorem Fix.set2 {L:eH} {w:World} {b:Nat} {x y:Value} {T:TypeId} (h:Fix L w b (.cells #[x,y] T)) (u v:Value):Fix L ((w.setCell (J b 0) u).setCell (J b 1) v) b (.cells #[u,v] T):=by
 refine⟨h.1,?_⟩;have h2:=h.2;simp[World.setCell,Array.getElem?_modify,h2]
theorem aF.stamp {A:az} {D aC:St} {w w2:World} (hR:aF A D w) (r2:aF A aC w2) (g:Grow A.L w A.L w2) (ht:aC.aQ=D.aQ) {b:Nat} {x y:Value} {T:TypeId} (Z:w.heap.size<=b) (fx:Fix A.L w2 b (.cells #[x,y] T)) (u v:Value):
 aF A aC ((w2.setCell (J b 0) u).setCell (J b 1) v)∧Grow A.L w A.L ((w2.setCell (J b 0) u).setCell (J b 1) v)∧Fix A.L ((w2.setCell (J b 0) u).setCell (J b 1) v) b (.cells #[u,v] T):=by
 obtain⟨r3,g3⟩:=hR.nZ r2 g ht rfl (a:=(J b 0)) Z fx.1 u;obtain⟨r4,g4⟩:=hR.nZ r3 g3 ht rfl (a:=(J b 1)) Z fx.1 v;exact⟨r4,g4,fx.set2 u v⟩
theorem Oh {A:az} {D:St} {w:World} (hR:aF A D w) (s:Nat) (hmp:A.mp=0) (t:bL) (ht:D.ai.getD s none=some t) (hu:dR) (G mb b0 b1 b2:Nat) (B0:ic (kp A D s) A.L w b0 hu) (B1:aP A.L w b1 (zu G)) (B2:aP A.L w b2 (I mb)) (hv:VL D G) (hx:D.word (af G 1)<18446744073709551616) (aN:D.count<4000000000000000000) (HT:mb=0->wy D.tick s hu G):
 zk 210 #[R b0 0,R b1 0,R b2 0] w (lF A w s (D.run s (.ended hu G mb))):=by
 have hsl:=hR.sl;obtain⟨bh,X0,hh0⟩:=B0;obtain⟨vt,TT,fh,hth⟩:=id hh0;have c0:=X0.cell;have c1:=B1.cell;have h0:w.cell? (J bh 0)=zs A.V 0:=fh.cell 0 rfl;have e2:=hR.z2;have Tm:=U (eD G 1 1 rfl hv.lo (by have:=hv.hi;omega) hv.u (by omega));have HL:Hid (∀ E,aF A D E->zk 42 #[R A.ba 0,I ((af G 1:Nat):Int)] E (uL A E D.tick (zu (D.word (af G 1):Int)))):=fun E r=>iN r (af G 1) (dD hR hv.lo hv.hi (by omega)) aN
 have HKK:Hid (∀ E,aF A D.tick E->Grow A.L w A.L E->zS E b0 0 bh 0∧zV E b1 0 G∧zS E bh 0 A.V 0∧zS E A.V 2 A.ba 0):=fun E r g=>⟨(X0.grow g).cell,(B1.grow g).cell,(fh.grow g).cell 0 rfl,r.bT 2 rfl⟩
 have hrd:=ru (D.word (af G 1)) hx;have zl:=U hrd;have nM:Hid (aF A D w.drew):=hR.drew;have HG:=zG A.L w;have Ff:Hid (Fix A.L (w.drew.alloc (.cells #[I 0,zu 0] 217)) w.heap.size (.cells #[I 0,zu 0] 217)):=fA hR.drew.mem.fresh _ rfl;have x0:=World.new_ne w _ c0;have x1:=World.new_ne w _ c1;have x2:=World.new_ne w _ h0;have x3:=World.new_ne w _ e2;generalize hkd:(rd (D.word (af G 1))).1=kd at*;generalize hn:(rd (D.word (af G 1))).2=n at*;have HST:Hid (∀ w2 b,aF A D.tick w2->Grow A.L w A.L w2->w.heap.size<=b->Fix A.L w2 b (.cells #[I 0,zu 0] 217)->aF A D.tick ((w2.setCell (J b 0) (I kd)).setCell (J b 1) (zu n))∧Grow A.L w A.L ((w2.setCell (J b 0) (I kd)).setCell (J b 1) (zu n))∧Fix A.L ((w2.setCell (J b 0) (I kd)).setCell (J b 1) (zu n)) b (.cells #[I kd,zu n] 217)):=fun w2 b r g Z fx=>hR.stamp r g rfl Z fx _ _
 have VD:Hid (∀ H,Grow A.L w A.L H->w.heap.size<=H.heap.size):=fun H g=>g.size
 have HB:Hid (∀ H,aF A D.tick H->Grow A.L w A.L H->zS H b0 0 bh 0∧zV H b1 0 G∧zT H b2 0 mb∧zS H bh 0 A.V 0∧zS H bh 1 (A.bt s) 0∧zV H bh 3 hu.at_∧zT H (A.bt s) 0 t.id):=
  fun H q g=>⟨(X0.grow g).cell,(B1.grow g).cell,(B2.grow g).cell,(fh.grow g).cell 0 rfl,(fh.grow g).cell 1 rfl,(fh.grow g).cell 3 rfl,q.fI (s:=s) (t:=t) ht 0 rfl⟩
 have wJ:Hid (∀ H,aF A D.tick H->Grow A.L w A.L H->zk 211 #[R bh 0,zu G,I mb] H (bG A H s (D.tick.seen s hu G mb))):=fun H q g=>Dp q s hmp bh hu (show dS (kp A D.tick s) A.L H bh hu from hh0.grow g) G mb HT
 have CL:Hid (∀ H,aF A D.tick H->Grow A.L w A.L H->zk 201 #[R bh 0,zu G] H (bG A H s (D.tick,.older hu G))):=fun H q g=>mR q s bh hu (show dS (kp A D.tick s) A.L H bh hu from hh0.grow g) G
 have QP:Hid (∀ H,aF A D.tick H->Grow A.L w A.L H->zk 212 #[R bh 0,zu G,I mb,I n] H (bG A H s (D.tick,.ik hu G mb n))):=fun H q g=>Il q s bh hu (show dS (kp A D.tick s) A.L H bh hu from hh0.grow g) G mb n
 have hn2:kd=2->n<=65535:=by
  intro h;have:=(vU (D.word (af G 1)) hx).2.1;rw[hkd,hn] at this;have:=this h;omega
 have aU:D.run s (.ended hu G mb)=if kd=1∧n<=hu.at_ then (D.tick,some (.older hu G)) else if kd≠2∨n=t.id then ((D.tick.seen s hu G mb).1,some (D.tick.seen s hu G mb).2) else (D.tick,some (.ik hu G mb n)):=by
  have e:D.tick.t s=t:=cK ht;simp only[St.run,hkd,hn,e]
 have uf:=U aU;have Tn:=U hn2;generalize D.run s (.ended hu G mb)=rr at*;clear hn2 hR aN hv X0 B1 B2 fh hth hh0 HT hx hrd hkd hn aU ht hmp hsl;generalize hu.at_=ha at*;generalize t.id=tid at*;generalize D.word (af G 1)=x at*;go_enter Tryz.func210,Tryz.ntmps210;go_wp2_with fail
 go_region_held3 (fun E=>zS E b0 0 bh 0∧zV E b1 0 G∧zS E bh 0 A.V 0∧zS E A.V 2 A.ba 0)
  (first|exact⟨c0,c1,h0,e2⟩|assumption|exact HKK.out _ q1 q4|exact HKK.out _ (q1.alloc _) (q4.trans (Grow.alloc _ _ _))|exact HKK.out _ r2 g2|exact HKK.out _ (r2.alloc _) (g2.trans (Grow.alloc _ _ _))|exact HKK.out _ (HST.out _ _ r2 g2 Z FX.out).1 (HST.out _ _ r2 g2 Z FX.out).2.1|go_keep)
  (first|(go_at_call 85;refine (Tm.out _).mono ?_;rintro e E ⟨rfl,rfl⟩)|(go_at_call 42;refine (HL.out _ nM.out).mono ?_;rintro e H ⟨rfl,q1,q2⟩;have q4:=HG.out.trans q2)|(go_at_call 42;refine (HL.out _ (nM.out.alloc _)).mono ?_;rintro e H ⟨rfl,q1,q2⟩;have q4:=(HG.out.trans (Grow.alloc _ _ _)).trans q2;have VE:=U (Ff.out.grow q2))|(go_at_call 108;refine (zl.out _).mono ?_;rintro e w2 ⟨rfl,hq⟩;have r2:=q1.below hq;have g2:=q4.trans (Grow.below hq);have FX:=U (VE.out.grow (Grow.below hq));have Z:=zr w.heap.size;have Tp:=FX.out.cell 0 (v:=I 0) rfl;have QD:=FX.out.cell 1 (v:=zu 0) rfl;have Tq:=FX.out.frozen 0;have Tt:=FX.out.frozen 1)|(go_at_call 108;refine (zl.out _).mono ?_;rintro e w2 ⟨rfl,hq⟩;have r2:=(q1.alloc _).below hq;have g2:=(q4.trans (Grow.alloc A.L _ _)).trans (Grow.below hq);have FX:=U ((fA q1.mem.fresh (.cells #[I 0,zu 0] 217) rfl).grow (Grow.below (L:=A.L) hq));have Z:=VD.out _ q4;have Tp:=FX.out.cell 0 (v:=I 0) rfl;have QD:=FX.out.cell 1 (v:=zu 0) rfl;have Tq:=FX.out.frozen 0;have Tt:=FX.out.frozen 1)|(go_at_call 108;refine (zl.out _).mono ?_;rintro e w2 ⟨rfl,hq⟩;have r2:=q1.below hq;have g2:=q4.trans (Grow.below hq)))
 all_goals
  rename_i aD;clear aD x0 x1 x2 x3 c0 c1 h0 e2
  first
  | (have HZ := U (HST.out _ _ r2 g2 Z FX.out)
     clear FX Z Tp QD Tq Tt r2 g2 q1 q4
     generalize hW:(World.setCell _ _ _).setCell _ _=W at *)
  | (have HZ := U (zA (r2.alloc (.cells #[I (kd : Int), zu (n : Int)] 217)) (zA (g2.trans (Grow.alloc _ _ (.cells #[I (kd : Int), zu (n : Int)] 217))) (fA r2.mem.fresh (.cells #[I (kd : Int), zu (n : Int)] 217) rfl)))
     clear r2 g2 q1 q4
     generalize hW:w2.alloc _=W at *)
  obtain⟨r3,g3,f3⟩:=HZ.out;have s0:=f3.cell 0 (v:=I kd) rfl;have s1:=f3.cell 1 (v:=zu n) rfl;obtain⟨d0,d1,d2,h0,h1,h3,t0⟩:=HB.out W r3 g3;clear f3 r3 g3 hW hq q2;have hn2:=Tn.out;clear Tn
  by_cases k1:kd=1
  . have fa1:((kd:Int)==1)=true:=by simp<;>omega
    have fa2:((kd:Int)=1)=True:=by simp<;>omega
    have fa3:(kd=1)=True:=by simp<;>omega
    have fa4:(kd==1)=true:=by simp<;>omega
    have fa5:((kd:Int) !=1)=false:=by simp<;>omega
    obtain⟨Oi,Oj,Ol,Om,Oo⟩:=qE (x:=kd) (c:=2) (ci:=2) (by omega)
    by_cases hna:n<=ha
    . have HE:=U (uf.out.trans (aW ⟨k1,hna⟩))
      obtain⟨Ki,Kj,Kk,Kl⟩:=WS (x:=n) (c:=ha) (xi:=(n:Int)) (ci:=(ha:Int)) (by omega);subst k1;clear hna;go_wp2_with fail
      go_quiet (fail)
      go_wp2_with (go_at_call 201;refine (CL.out _ (HZ.out.1.drewN _) (HZ.out.2.1.trans (Grow.drewN _ _ _))).mono ?_;rintro e w4 ⟨A2,v,rfl,p1,p2,p3,p4⟩);go_ret;rw[HE.out];exact⟨A2,v,rfl,p1,(HZ.out.2.1.trans (Grow.drewN _ _ _)).trans p2,p3,p4⟩
    . have HE:=U ((uf.out.trans (bu (fun h=>hna h.2))).trans (aW (Or.inl (by omega))))
      obtain⟨Ki,Kj,Kk,Kl⟩:=WT (x:=n) (c:=ha) (xi:=(n:Int)) (ci:=(ha:Int)) (by omega);subst k1;clear hna;go_wp2_with fail
      go_quiet (fail)
      go_wp2_with fail
      go_quiet (fail)
      go_wp2_with (go_at_call 211;refine (wJ.out _ (HZ.out.1.drewN _) (HZ.out.2.1.trans (Grow.drewN _ _ _))).mono ?_;rintro e w4 ⟨A2,v,rfl,p1,p2,p3,p4⟩);go_ret;rw[HE.out];exact⟨A2,v,rfl,p1,(HZ.out.2.1.trans (Grow.drewN _ _ _)).trans p2,p3,p4⟩
  . have Oq:=U (uf.out.trans (bu (fun h=>k1 h.1)))
    obtain⟨fa1,fa2,fa3,fa4,fa5⟩:=qE (x:=kd) (c:=1) (ci:=1) (by omega)
    by_cases k2:kd=2
    . have Oi:((kd:Int)==2)=true:=by simp<;>omega
      have Oj:((kd:Int)=2)=True:=by simp<;>omega
      have Ol:(kd=2)=True:=by simp<;>omega
      have Om:(kd==2)=true:=by simp<;>omega
      have Oo:((kd:Int) !=2)=false:=by simp<;>omega
      have Qg:=hn2 k2;have ew:IntKind.i64.wrap (n:Int)=(n:Int):=by rw[je];omega
      by_cases hni:n=tid
      . have HE:=U (Oq.out.trans (aW (Or.inr hni)))
        obtain⟨Ki,Kj,Kk,Kl,VF⟩:=rT (x:=n) (c:=tid) (ci:=(tid:Int)) (by omega);subst k2;clear k1 hni Qg;go_wp2_with fail
        go_quiet (fail)
        go_wp2_with fail
        go_quiet (fail)
        go_wp2_with (go_at_call 211;refine (wJ.out _ (HZ.out.1.drewN _) (HZ.out.2.1.trans (Grow.drewN _ _ _))).mono ?_;rintro e w4 ⟨A2,v,rfl,p1,p2,p3,p4⟩);go_ret;rw[HE.out];exact⟨A2,v,rfl,p1,(HZ.out.2.1.trans (Grow.drewN _ _ _)).trans p2,p3,p4⟩
      . have HE:=U (Oq.out.trans (bu (by omega)))
        obtain⟨Ki,Kj,Kk,Kl,VF⟩:=qE (x:=n) (c:=tid) (ci:=(tid:Int)) (by omega);subst k2;clear k1 hni Qg;go_wp2_with fail
        go_quiet (fail)
        go_wp2_with fail
        go_quiet (fail)
        go_wp2_with (go_at_call 212;refine (QP.out _ (HZ.out.1.drewN _) (HZ.out.2.1.trans (Grow.drewN _ _ _))).mono ?_;rintro e w4 ⟨A2,v,rfl,p1,p2,p3,p4⟩);go_ret;rw[HE.out];exact⟨A2,v,rfl,p1,(HZ.out.2.1.trans (Grow.drewN _ _ _)).trans p2,p3,p4⟩
    . have HE:=U (Oq.out.trans (aW (Or.inl k2)))
      obtain⟨Oi,Oj,Ol,Om,Oo⟩:=qE (x:=kd) (c:=2) (ci:=2) (by omega);clear k1 k2;go_wp2_with fail
      go_quiet (fail)
      go_wp2_with fail
      go_quiet (fail)
      go_wp2_with (go_at_call 211;refine (wJ.out _ (HZ.out.1.drewN _) (HZ.out.2.1.trans (Grow.drewN _ _ _))).mono ?_;rintro e w4 ⟨A2,v,rfl,p1,p2,p3,p4⟩);go_ret;rw[HE.out];exact⟨A2,v,rfl,p1,(HZ.out.2.1.trans (Grow.drewN _ _ _)).trans p2,p3,p4⟩
theorem Tu {A:az} {D:St} {w:World} (hR:aF A D w) (s:Nat) (t:bL) (ht:D.ai.getD s none=some t) (G:Nat) (hv:VL D G) (hx:D.word (af G 1)<18446744073709551616) (aN:D.count<4000000000000000000) (b0 b1 b2 b3:Nat)
 (B0:aP A.L w b0 (R A.V 0)) (B1:aP A.L w b1 (zu G)) (B2:aP A.L w b2 (R (A.bt s) 0)) (B3:aP A.L w b3 (R (A.bc s) 0)):
 zk 155 #[R b0 0,R b1 0,R b2 0,R b3 0] w (lF A w s (D.run s (.own G))):=by
 have hsl:=hR.sl;have c0:=B0.cell;have c1:=B1.cell;have e2:=hR.z2;have Tm:=U (eD G 1 1 rfl hv.lo (by have:=hv.hi;omega) hv.u (by omega));have HL:Hid (∀ E,aF A D E->zk 42 #[R A.ba 0,I ((af G 1:Nat):Int)] E (uL A E D.tick (zu (D.word (af G 1):Int)))):=fun E r=>iN r (af G 1) (dD hR hv.lo hv.hi (by omega)) aN
 have HKK:Hid (∀ E,aF A D.tick E->Grow A.L w A.L E->zS E b0 0 A.V 0∧zV E b1 0 G∧zS E A.V 2 A.ba 0):=fun E r g=>⟨(B0.grow g).cell,(B1.grow g).cell,r.bT 2 rfl⟩
 have hrd:=ru (D.word (af G 1)) hx;have zl:=U hrd;have nM:Hid (aF A D w.drew):=hR.drew;have HG:=zG A.L w;have Ff:Hid (Fix A.L (w.drew.alloc (.cells #[zu 0] 25)) w.heap.size (.cells #[zu 0] 25)):=fA hR.drew.mem.fresh _ rfl;have x0:=World.new_ne w _ c0;have x1:=World.new_ne w _ c1;have x3:=World.new_ne w _ e2;have hn2:(rd (D.word (af G 1))).1=2->(rd (D.word (af G 1))).2<=65535:=by
  intro h;have:=(vU (D.word (af G 1)) hx).2.1 h;omega
 have aU:D.run s (.own G)=if (rd (D.word (af G 1))).1=3 then (D.tick,some (.claim G (D.word (af G 1)))) else if (rd (D.word (af G 1))).1=2 then (D.tick,some (.iw G (D.word (af G 1)) (rd (D.word (af G 1))).2)) else (D.tick,some (.abort 14 2)):=by
  simp only[St.run]
 have uf:=U aU;have Tn:=U hn2;generalize D.run s (.own G)=rr at*;have hl0:A.L w.heap.size=none:=hR.mem.fresh _ (zr _);have IK:Hid (∀ E,aF A D.tick E->Grow A.L w A.L E->aF A D.tick (E.setCell (J w.heap.size 0) (zu (D.word (af G 1):Int)))∧Grow A.L w A.L (E.setCell (J w.heap.size 0) (zu (D.word (af G 1):Int)))):=fun E r g=>hR.nZ r g rfl rfl (a:=(J w.heap.size 0)) (zr _) hl0 (zu (D.word (af G 1):Int))
 have HB:Hid (∀ H,aF A D.tick H->Grow A.L w A.L H->zS H b0 0 A.V 0∧zV H b1 0 G∧zS H b2 0 (A.bt s) 0∧zS H b3 0 (A.bc s) 0):=fun H q g=>⟨(B0.grow g).cell,(B1.grow g).cell,(B2.grow g).cell,(B3.grow g).cell⟩
 have HX:=U (zA B0 (zA B1 (zA B2 B3)));have SN:Hid (∀ H,aF A D.tick H->zk 97 #[R A.V 0,R (A.bt s) 0,R (A.bc s) 0,I 14,I 2] H (bG A H s (D.tick,.abort 14 2))):=fun H q=>jM q s 14 2
 have Vh:Hid (∀ (x:Nat) H,aF A D.tick H->zk 156 #[R A.V 0,R (A.bt s) 0,R (A.bc s) 0,zu G,zu x] H (bG A H s (D.tick,.claim G x))):=fun x H q=>yN q s G x
 clear hR aN hv hx hrd aU ht hsl B0 B1 B2 B3 hl0 hn2;generalize (rd (D.word (af G 1))).1=kd at*;generalize (rd (D.word (af G 1))).2=n at*;generalize D.word (af G 1)=x at*;go_enter Tryz.func155,Tryz.ntmps155;go_wp2_with fail
 go_region_held3 (fun E=>zS E b0 0 A.V 0∧zV E b1 0 G∧zS E A.V 2 A.ba 0)
  (first|exact⟨c0,c1,e2⟩|assumption|exact HKK.out _ q1 q4|exact HKK.out _ (q1.alloc _) (q4.trans (Grow.alloc _ _ _))|exact HKK.out _ (IK.out _ q1 q4).1 (IK.out _ q1 q4).2|go_keep)
  (first|(go_at_call 85;refine (Tm.out _).mono ?_;rintro e E ⟨rfl,rfl⟩)|(go_at_call 42;refine (HL.out _ nM.out).mono ?_;rintro e H ⟨rfl,q1,q2⟩;have q4:=HG.out.trans q2)|(go_at_call 42;refine (HL.out _ (nM.out.alloc _)).mono ?_;rintro e H ⟨rfl,q1,q2⟩;have q4:=(HG.out.trans (Grow.alloc _ _ _)).trans q2;have FX:=U (Ff.out.grow q2);have nb:=FX.out.cell 0 (v:=zu 0) rfl;have nz:=FX.out.frozen 0))
 all_goals
  rename_i aD;clear aD x0 x1 x3 c0 c1 e2
  first
  | (have HZ := U (zA (IK.out _ q1 q4).1 (zA (IK.out _ q1 q4).2 (FX.out.vI (zu (x : Int)))))
     clear FX nb nz q1 q4
     generalize hW:World.setCell _ _ _=W at *)
  | (have HZ := U (zA (q1.alloc (.cells #[zu (x : Int)] 25)) (zA (q4.trans (Grow.alloc _ _ (.cells #[zu (x : Int)] 25))) (fA q1.mem.fresh (.cells #[zu (x : Int)] 25) rfl)))
     clear q1 q4
     generalize hW:H.alloc _=W at *)
  have s5:=HZ.out.2.2.cell 0 (v:=zu x) rfl;clear q2 hW;have hn2:=Tn.out;clear Tn
  by_cases k3:kd=3
  . have HE:=U (uf.out.trans (aW k3))
    obtain⟨fa1,fa2,fa3,fa4,fa5⟩:=rT (x:=kd) (c:=3) (ci:=3) (by omega);subst k3;clear hn2;go_wp2_with (first|(go_at_call 108;refine (zl.out _).mono ?_;rintro e w2 ⟨rfl,hq⟩;have gq:=Grow.below (L:=A.L) hq;obtain⟨r3,g3,f3⟩:=dz (HZ.out.1.below hq) #[I (3:Int),zu n] 217;have s0:=f3.cell 0 (v:=I (3:Int)) rfl;have s1:=f3.cell 1 (v:=zu n) rfl;have g4:=(HZ.out.2.1.trans gq).trans g3;have Xv:=((HZ.out.2.2.grow gq).grow g3).cell 0 (v:=zu x) rfl;obtain⟨d0,d1,d2,d3⟩:=HB.out _ r3 g4;have HF:=U (zA r3 (zA g4 ((HZ.out.2.2.grow gq).grow g3)));clear r3 g3 f3 gq g4 hq)|(go_at_call 156;refine (Vh.out x _ HF.out.1).mono ?_;rintro e w4 ⟨A2,v,rfl,p1,p2,p3,p4⟩));go_ret;rw[HE.out];exact⟨A2,v,rfl,p1,HF.out.2.1.trans p2,p3,p4⟩
  . have Oq:=U (uf.out.trans (bu k3))
    obtain⟨fa1,fa2,fa3,fa4,fa5⟩:=qE (x:=kd) (c:=3) (ci:=3) (by omega)
    by_cases k2:kd=2
    . have HE:=U (Oq.out.trans (aW k2))
      have Qg:=hn2 k2;have ew:IntKind.i64.wrap (n:Int)=(n:Int):=by rw[je];omega
      obtain⟨Ki,Kj,Kk,Kl,VF⟩:=rT (x:=kd) (c:=2) (ci:=2) (by omega);subst k2;clear hn2 Qg k3;go_wp2_with (go_at_call 108;refine (zl.out _).mono ?_;rintro e w2 ⟨rfl,hq⟩;have gq:=Grow.below (L:=A.L) hq;obtain⟨r3,g3,f3⟩:=dz (HZ.out.1.below hq) #[I (2:Int),zu n] 217;have s0:=f3.cell 0 (v:=I (2:Int)) rfl;have s1:=f3.cell 1 (v:=zu n) rfl;have g4:=(HZ.out.2.1.trans gq).trans g3;have Xv:=((HZ.out.2.2.grow gq).grow g3).cell 0 (v:=zu x) rfl;obtain⟨d0,d1,d2,d3⟩:=HB.out _ r3 g4;have HF:=U (zA r3 (zA g4 ((HZ.out.2.2.grow gq).grow g3)));clear r3 g3 f3 gq g4 hq);obtain⟨r5,g5,f5⟩:=dz HF.out.1 #[I n] 3;rw[kH] at f5;have gg:=HF.out.2.1.trans g5;have HY:=U (zA r5 (zA gg (zA f5 (HF.out.2.2.grow g5))));go_ret;rw[HE.out];obtain⟨X0,X1,X2,X3⟩:=HX.out;obtain⟨r5,gg,f5,f6⟩:=HY.out;exact⟨A,_,rfl,r5,gg,bU.refl _ _,_,_,_,_,_,_,rfl,X0.grow gg,f5.box,X2.grow gg,X3.grow gg,X1.grow gg,f6.box⟩
    . have HE:=U (Oq.out.trans (bu k2))
      obtain⟨Ki,Kj,Kk,Kl,VF⟩:=qE (x:=kd) (c:=2) (ci:=2) (by omega);clear k3 k2 hn2;go_wp2_with (first|(go_at_call 108;refine (zl.out _).mono ?_;rintro e w2 ⟨rfl,hq⟩;have gq:=Grow.below (L:=A.L) hq;obtain⟨r3,g3,f3⟩:=dz (HZ.out.1.below hq) #[I kd,zu n] 217;have s0:=f3.cell 0 (v:=I kd) rfl;have s1:=f3.cell 1 (v:=zu n) rfl;have g4:=(HZ.out.2.1.trans gq).trans g3;have Xv:=((HZ.out.2.2.grow gq).grow g3).cell 0 (v:=zu x) rfl;obtain⟨d0,d1,d2,d3⟩:=HB.out _ r3 g4;have HF:=U (zA r3 (zA g4 ((HZ.out.2.2.grow gq).grow g3)));clear r3 g3 f3 gq g4 hq)|(go_at_call 97;refine (SN.out _ HF.out.1).mono ?_;rintro e w4 ⟨A2,v,rfl,p1,p2,p3,p4⟩));go_ret;rw[HE.out];exact⟨A2,v,rfl,p1,HF.out.2.1.trans p2,p3,p4⟩
theorem QQ {A:az} {D:St} {w:World} (hR:aF A D w) (s:Nat) (t:bL) (ht:D.ai.getD s none=some t) (G head at_:Nat) (hv0:G=0∨VL D G) (hva:VL D at_) (hp:iY D) (hx:D.word (af at_ 0)<18446744073709551616) (aN:D.count<4000000000000000000) (b0 b1 b2 b3 b4 b5:Nat)
 (B0:aP A.L w b0 (R A.V 0)) (B1:aP A.L w b1 (zu at_)) (B2:aP A.L w b2 (R (A.bt s) 0)) (B3:lT (kp A D s) A.L w b3 G head at_) (B4:aP A.L w b4 (R (A.bc s) 0)) (B5:aP A.L w b5 (zu G)):
 zk 173 #[R b0 0,R b1 0,R b2 0,R b3 0,R b4 0,R b5 0] w (lF A w s (D.run s (.free G head at_))):=by
 have hsl:=hR.sl;obtain⟨nv,X3,m0,m1,m2,m3,m4,m5,U3,N0,N1,N2,N3,N4,N5⟩:=B3;have c0:=B0.cell;have c1:=B1.cell;have e2:=hR.z2;have Tm:=U (eD at_ 0 0 rfl hva.lo (by have:=hva.hi;omega) hva.u (by omega));have HL:Hid (∀ E,aF A D E->zk 42 #[R A.ba 0,I ((af at_ 0:Nat):Int)] E (uL A E D.tick (zu (D.word (af at_ 0):Int)))):=fun E r=>iN r (af at_ 0) (dD hR hva.lo hva.hi (by omega)) aN
 have HKK:Hid (∀ E,aF A D.tick E->Grow A.L w A.L E->zS E b0 0 A.V 0∧zV E b1 0 at_∧zS E A.V 2 A.ba 0):=fun E r g=>⟨(B0.grow g).cell,(B1.grow g).cell,r.bT 2 rfl⟩
 have hrd:=ru (D.word (af at_ 0)) hx;have zl:=U hrd;have nM:Hid (aF A D w.drew):=hR.drew;have HG:=zG A.L w;have Ff:Hid (Fix A.L (w.drew.alloc (.cells #[I 0,zu 0] 217)) w.heap.size (.cells #[I 0,zu 0] 217)):=fA hR.drew.mem.fresh _ rfl;have x0:=World.new_ne w _ c0;have x1:=World.new_ne w _ c1;have x3:=World.new_ne w _ e2;generalize hkd:(rd (D.word (af at_ 0))).1=kd at*;generalize hn:(rd (D.word (af at_ 0))).2=n at*;have HST:Hid (∀ w2 b,aF A D.tick w2->Grow A.L w A.L w2->w.heap.size<=b->Fix A.L w2 b (.cells #[I 0,zu 0] 217)->aF A D.tick ((w2.setCell (J b 0) (I kd)).setCell (J b 1) (zu n))∧Grow A.L w A.L ((w2.setCell (J b 0) (I kd)).setCell (J b 1) (zu n))∧Fix A.L ((w2.setCell (J b 0) (I kd)).setCell (J b 1) (zu n)) b (.cells #[I kd,zu n] 217)):=fun w2 b r g Z fx=>hR.stamp r g rfl Z fx _ _
 have VD:Hid (∀ H,Grow A.L w A.L H->w.heap.size<=H.heap.size):=fun H g=>g.size
 have HB:Hid (∀ H,aF A D.tick H->Grow A.L w A.L H->zS H b0 0 A.V 0∧zS H b2 0 (A.bt s) 0∧H.cell? (J b3 0)=some nv∧zS H b4 0 (A.bc s) 0∧zV H b5 0 G∧zV H (A.bt s) 3 t.aJ):=
  fun H q g=>⟨(B0.grow g).cell,(B2.grow g).cell,(X3.grow g).cell,(B4.grow g).cell,(B5.grow g).cell,q.fI (s:=s) (t:=t) ht 3 rfl⟩
 have PQ:Hid (∀ H,aF A D.tick H->Grow A.L w A.L H->zk 174 #[R A.V 0,R (A.bt s) 0,R (A.bc s) 0,zu G] H (bG A H s (D.tick.lost G))):=fun H q g=>CK q s G (hv0.imp (fun h=>h) fun h=>⟨h.lo,h.hi,h.u⟩) ⟨hp.n,hp.free,hp.tag,hp.jh⟩
 have aU:D.run s (.free G head at_)=if kd=1∧n<=t.aJ then (D.tick,some (.next G head at_)) else if kd≠2 then ((D.tick.lost G).1,some (D.tick.lost G).2) else (D.tick,some (.dX G head at_ n)):=by
  have e:D.tick.t s=t:=cK ht;simp only[St.run,hkd,hn,e]
 have HX:Hid (aP A.L w b0 (R A.V 0)∧aP A.L w b1 (zu at_)∧aP A.L w b2 (R (A.bt s) 0)∧aP A.L w b3 nv∧aP A.L w b4 (R (A.bc s) 0)∧aP A.L w b5 (zu G)∧aP A.L w m0 (ptr (kp A D s).e)∧aP A.L w m1 (ptr (kp A D s).t)∧aP A.L w m2 (ptr (kp A D s).c)∧aP A.L w m3 (u64 G)∧aP A.L w m4 (u64 head)∧aP A.L w m5 (u64 at_)):=⟨B0,B1,B2,X3,B4,B5,N0,N1,N2,N3,N4,N5⟩
 subst U3;have uf:=U aU;generalize D.run s (.free G head at_)=rr at*;clear hR aN hva hv0 hp hx hrd hkd hn aU ht hsl B0 B1 B2 X3 B4 B5 N0 N1 N2 N3 N4 N5;generalize t.aJ=bg at*;generalize D.word (af at_ 0)=x at*;go_enter Tryz.func173,Tryz.ntmps173;go_wp2_with fail
 go_region_held3 (fun E=>zS E b0 0 A.V 0∧zV E b1 0 at_∧zS E A.V 2 A.ba 0)
  (first|exact⟨c0,c1,e2⟩|assumption|exact HKK.out _ q1 q4|exact HKK.out _ (q1.alloc _) (q4.trans (Grow.alloc _ _ _))|exact HKK.out _ r2 g2|exact HKK.out _ (r2.alloc _) (g2.trans (Grow.alloc _ _ _))|exact HKK.out _ (HST.out _ _ r2 g2 Z FX.out).1 (HST.out _ _ r2 g2 Z FX.out).2.1|go_keep)
  (first|(go_at_call 85;refine (Tm.out _).mono ?_;rintro e E ⟨rfl,rfl⟩)|(go_at_call 42;refine (HL.out _ nM.out).mono ?_;rintro e H ⟨rfl,q1,q2⟩;have q4:=HG.out.trans q2)|(go_at_call 42;refine (HL.out _ (nM.out.alloc _)).mono ?_;rintro e H ⟨rfl,q1,q2⟩;have q4:=(HG.out.trans (Grow.alloc _ _ _)).trans q2;have VE:=U (Ff.out.grow q2))|(go_at_call 108;refine (zl.out _).mono ?_;rintro e w2 ⟨rfl,hq⟩;have r2:=q1.below hq;have g2:=q4.trans (Grow.below hq);have FX:=U (VE.out.grow (Grow.below hq));have Z:=zr w.heap.size;have Tp:=FX.out.cell 0 (v:=I 0) rfl;have QD:=FX.out.cell 1 (v:=zu 0) rfl;have Tq:=FX.out.frozen 0;have Tt:=FX.out.frozen 1)|(go_at_call 108;refine (zl.out _).mono ?_;rintro e w2 ⟨rfl,hq⟩;have r2:=(q1.alloc _).below hq;have g2:=(q4.trans (Grow.alloc A.L _ _)).trans (Grow.below hq);have FX:=U ((fA q1.mem.fresh (.cells #[I 0,zu 0] 217) rfl).grow (Grow.below (L:=A.L) hq));have Z:=VD.out _ q4;have Tp:=FX.out.cell 0 (v:=I 0) rfl;have QD:=FX.out.cell 1 (v:=zu 0) rfl;have Tq:=FX.out.frozen 0;have Tt:=FX.out.frozen 1)|(go_at_call 108;refine (zl.out _).mono ?_;rintro e w2 ⟨rfl,hq⟩;have r2:=q1.below hq;have g2:=q4.trans (Grow.below hq)))
 all_goals
  rename_i aD;clear aD x0 x1 x3 c0 c1 e2
  first
  | (have HZ := U (HST.out _ _ r2 g2 Z FX.out)
     clear FX Z Tp QD Tq Tt r2 g2 q1 q4
     generalize hW:(World.setCell _ _ _).setCell _ _=W at *)
  | (have HZ := U (zA (r2.alloc (.cells #[I (kd : Int), zu (n : Int)] 217)) (zA (g2.trans (Grow.alloc _ _ (.cells #[I (kd : Int), zu (n : Int)] 217))) (fA r2.mem.fresh (.cells #[I (kd : Int), zu (n : Int)] 217) rfl)))
     clear r2 g2 q1 q4
     generalize hW:w2.alloc _=W at *)
  obtain⟨r3,g3,f3⟩:=HZ.out;have s0:=f3.cell 0 (v:=I kd) rfl;have s1:=f3.cell 1 (v:=zu n) rfl;obtain⟨d0,d2,d3,d4,d5,t3⟩:=HB.out W r3 g3;clear f3 r3 g3 hW hq q2
  by_cases k1:kd=1
  . have fa1:((kd:Int)==1)=true:=by simp<;>omega
    have fa2:((kd:Int)=1)=True:=by simp<;>omega
    have fa3:(kd=1)=True:=by simp<;>omega
    have fa4:(kd==1)=true:=by simp<;>omega
    have fa5:((kd:Int) !=1)=false:=by simp<;>omega
    obtain⟨Oi,Oj,Ol,Om,Oo⟩:=qE (x:=kd) (c:=2) (ci:=2) (by omega)
    by_cases hna:n<=bg
    . have HE:=U (uf.out.trans (aW ⟨k1,hna⟩))
      obtain⟨Ki,Kj,Kk,Kl⟩:=WS (x:=n) (c:=bg) (xi:=(n:Int)) (ci:=(bg:Int)) (by omega);subst k1;clear hna;go_wp2_with fail
      go_quiet (fail)
      go_wp2_with fail;go_ret;rw[HE.out];obtain⟨X0,X1,X2,X3,X4,X5,N0,N1,N2,N3,N4,N5⟩:=HX.out;have gg:=fun n=>HZ.out.2.1.trans (Grow.drewN _ _ n)
      exact⟨A,_,rfl,HZ.out.1.drewN _,gg _,bU.refl _ _,_,_,_,_,_,_,rfl,N0.grow (gg _),N1.grow (gg _),N2.grow (gg _),N3.grow (gg _),N4.grow (gg _),N5.grow (gg _)⟩
    . have HE:=U ((uf.out.trans (bu (fun h=>hna h.2))).trans (aW (by omega)))
      obtain⟨Ki,Kj,Kk,Kl⟩:=WT (x:=n) (c:=bg) (xi:=(n:Int)) (ci:=(bg:Int)) (by omega);subst k1;clear hna;go_wp2_with fail
      go_quiet (fail)
      go_wp2_with (go_at_call 174;refine (PQ.out _ (HZ.out.1.drewN _) (HZ.out.2.1.trans (Grow.drewN _ _ _))).mono ?_;rintro e w4 ⟨A2,v,rfl,p1,p2,p3,p4⟩);go_ret;rw[HE.out];exact⟨A2,v,rfl,p1,(HZ.out.2.1.trans (Grow.drewN _ _ _)).trans p2,p3,p4⟩
  . have Oq:=U (uf.out.trans (bu (fun h=>k1 h.1)))
    obtain⟨fa1,fa2,fa3,fa4,fa5⟩:=qE (x:=kd) (c:=1) (ci:=1) (by omega)
    by_cases k2:kd=2
    . have Oi:((kd:Int)==2)=true:=by simp<;>omega
      have Oj:((kd:Int)=2)=True:=by simp<;>omega
      have Ol:(kd=2)=True:=by simp<;>omega
      have Om:(kd==2)=true:=by simp<;>omega
      have Oo:((kd:Int) !=2)=false:=by simp<;>omega
      have HE:=U (Oq.out.trans (bu (fun h=>h k2)));subst k2;clear k1;go_wp2_with fail
      go_quiet (fail)
      go_wp2_with fail;go_ret;rw[HE.out];obtain⟨X0,X1,X2,X3,X4,X5,N0,N1,N2,N3,N4,N5⟩:=HX.out;have gd:=fun n=>Grow.drewN A.L W n
      have gg:=fun n=>HZ.out.2.1.trans (gd n)
      exact⟨A,_,rfl,HZ.out.1.drewN _,gg _,bU.refl _ _,_,_,_,_,_,_,rfl,X0.grow (gg _),⟨_,HZ.out.2.2.grow (gd _)⟩,X2.grow (gg _),⟨_,X3.grow (gg _),_,_,_,_,_,_,rfl,N0.grow (gg _),N1.grow (gg _),N2.grow (gg _),N3.grow (gg _),N4.grow (gg _),N5.grow (gg _)⟩,X4.grow (gg _),X5.grow (gg _)⟩
    . have HE:=U (Oq.out.trans (aW k2))
      obtain⟨Oi,Oj,Ol,Om,Oo⟩:=qE (x:=kd) (c:=2) (ci:=2) (by omega);clear k1 k2;go_wp2_with fail
      go_quiet (fail)
      go_wp2_with (go_at_call 174;refine (PQ.out _ (HZ.out.1.drewN _) (HZ.out.2.1.trans (Grow.drewN _ _ _))).mono ?_;rintro e w4 ⟨A2,v,rfl,p1,p2,p3,p4⟩);go_ret;rw[HE.out];exact⟨A2,v,rfl,p1,(HZ.out.2.1.trans (Grow.drewN _ _ _)).trans p2,p3,p4⟩
end Go.Proofs.YthicolbbmjfkfaaGreat.Em
