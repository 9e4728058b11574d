import Derived.Test.YthicolbbmjfkfaaGreatQh11
import Derived.Test.YthicolbbmjfkfaaGreatQh14
set_option linter.unusedVariables false
set_option linter.unusedSimpArgs false
set_option maxRecDepth 100000
set_option maxHeartbeats 1600000
namespace Go.Proofs.YthicolbbmjfkfaaGreat.Em
open Go.ChangeShapes Go.WideShapes Go.ChangeAt Go.RowKit En
theorem Fix.set2 {L:cZ} {w:World} {b:Nat} {x y:Value} {T:TypeId} (h:Fix L w b (.cells #[x,y] T)) (u v:Value):Fix L ((w.setCell (J b 0) u).setCell (J b 1) v) b (.cells #[u,v] T):=by
 refine⟨h.1,?_⟩;have h2:=h.2;simp[World.setCell,Array.getElem?_modify,h2]
theorem aD.stamp {A:au} {D aH:St} {w w2:World} (hR:aD A D w) (r2:aD A aH w2) (g:Grow A.L w A.L w2) (ht:aH.aP=D.aP) {b:Nat} {x y:Value} {T:TypeId} (Z:w.heap.size<=b) (fx:Fix A.L w2 b (.cells #[x,y] T)) (u v:Value):
 aD A aH ((w2.setCell (J b 0) u).setCell (J b 1) v)∧Grow A.L w A.L ((w2.setCell (J b 0) u).setCell (J b 1) v)∧Fix A.L ((w2.setCell (J b 0) u).setCell (J b 1) v) b (.cells #[u,v] T):=by
 obtain⟨r3,g3⟩:=hR.mg r2 g ht rfl (a:=(J b 0)) Z fx.1 u;obtain⟨r4,g4⟩:=hR.mg r3 g3 ht rfl (a:=(J b 1)) Z fx.1 v;exact⟨r4,g4,fx.set2 u v⟩
theorem JO {A:au} {D:St} {w:World} (hR:aD A D w) (s:Nat) (hmp:A.mp=0) (t:bB) (ht:D.ag.getD s none=some t) (hu:dw) (F mb b0 b1 b2:Nat) (B0:fT (kp A D s) A.L w b0 hu) (B1:aK A.L w b1 (zu F)) (B2:aK A.L w b2 (I mb)) (hv:VL D F) (hx:D.word (af F 1)<18446744073709551616) (aQ:D.count<4000000000000000000) (HT:mb=0->uo D.tick s hu F):
 zk 210 #[R b0 0,R b1 0,R b2 0] w (jO A w s (D.run s (.ended hu F mb))):=by
 have hsl:=hR.sl;obtain⟨bh,X0,hh0⟩:=B0;obtain⟨vt,TT,fh,hth⟩:=id hh0;have c0:=X0.cell;have c1:=B1.cell;have h0:w.cell? (J bh 0)=zs A.Y 0:=fh.cell 0 rfl;have e2:=hR.z2;have O0:=U (gF F 1 1 rfl hv.lo (by have:=hv.hi;omega) hv.u (by omega));have HL:Hid (∀ G,aD A D G->zk 42 #[R A.ba 0,I ((af F 1:Nat):Int)] G (FD A G D.tick (zu (D.word (af F 1):Int)))):=fun G r=>gM r (af F 1) (fI hR hv.lo hv.hi (by omega)) aQ
 have HKK:Hid (∀ G,aD A D.tick G->Grow A.L w A.L G->zS G b0 0 bh 0∧zV G b1 0 F∧zS G bh 0 A.Y 0∧zS G A.Y 2 A.ba 0):=fun G r g=>⟨(X0.grow g).cell,(B1.grow g).cell,(fh.grow g).cell 0 rfl,r.eH 2 rfl⟩
 have hrd:=yf (D.word (af F 1)) hx;have GI:=U hrd;have BM:Hid (aD A D w.drew):=hR.drew;have HG:=zG A.L w;have Mf:Hid (Fix A.L (w.drew.alloc (.cells #[I 0,zu 0] 217)) w.heap.size (.cells #[I 0,zu 0] 217)):=dO hR.drew.mem.fresh _ rfl;have x0:=World.new_ne w _ c0;have x1:=World.new_ne w _ c1;have x2:=World.new_ne w _ h0;have x3:=World.new_ne w _ e2;generalize hkd:(rd (D.word (af F 1))).1=kd at*;generalize hn:(rd (D.word (af F 1))).2=n at*;have HST:Hid (∀ w2 b,aD A D.tick w2->Grow A.L w A.L w2->w.heap.size<=b->Fix A.L w2 b (.cells #[I 0,zu 0] 217)->aD A D.tick ((w2.setCell (J b 0) (I kd)).setCell (J b 1) (zu n))∧Grow A.L w A.L ((w2.setCell (J b 0) (I kd)).setCell (J b 1) (zu n))∧Fix A.L ((w2.setCell (J b 0) (I kd)).setCell (J b 1) (zu n)) b (.cells #[I kd,zu n] 217)):=fun w2 b r g Z fx=>hR.stamp r g rfl Z fx _ _
 have Rl:Hid (∀ H,Grow A.L w A.L H->w.heap.size<=H.heap.size):=fun H g=>g.size
 have HB:Hid (∀ H,aD A D.tick H->Grow A.L w A.L H->zS H b0 0 bh 0∧zV H b1 0 F∧zT H b2 0 mb∧zS H bh 0 A.Y 0∧zS H bh 1 (A.bt s) 0∧zV H bh 3 hu.at_∧zT H (A.bt s) 0 t.id):=
  fun H q g=>⟨(X0.grow g).cell,(B1.grow g).cell,(B2.grow g).cell,(fh.grow g).cell 0 rfl,(fh.grow g).cell 1 rfl,(fh.grow g).cell 3 rfl,q.dZ (s:=s) (t:=t) ht 0 rfl⟩
 have uu:Hid (∀ H,aD A D.tick H->Grow A.L w A.L H->zk 211 #[R bh 0,zu F,I mb] H (aZ A H s (D.tick.seen s hu F mb))):=fun H q g=>Af q s hmp bh hu (show dE (kp A D.tick s) A.L H bh hu from hh0.grow g) F mb HT
 have Ae:Hid (∀ H,aD A D.tick H->Grow A.L w A.L H->zk 201 #[R bh 0,zu F] H (aZ A H s (D.tick,.older hu F))):=fun H q g=>kV q s bh hu (show dE (kp A D.tick s) A.L H bh hu from hh0.grow g) F
 have Ml:Hid (∀ H,aD A D.tick H->Grow A.L w A.L H->zk 212 #[R bh 0,zu F,I mb,I n] H (aZ A H s (D.tick,.eY hu F mb n))):=fun H q g=>Eu q s bh hu (show dE (kp A D.tick s) A.L H bh hu from hh0.grow g) F mb n
 have hn2:kd=2->n<=65535:=by
  intro h;have:=(tX (D.word (af F 1)) hx).2.1;rw[hkd,hn] at this;have:=this h;omega
 have aN:D.run s (.ended hu F mb)=if kd=1∧n<=hu.at_ then (D.tick,some (.older hu F)) else if kd≠2∨n=t.id then ((D.tick.seen s hu F mb).1,some (D.tick.seen s hu F mb).2) else (D.tick,some (.eY hu F mb n)):=by
  have e:D.tick.t s=t:=bQ ht;simp only[St.run,hkd,hn,e]
 have rf:=U aN;have O1:=U hn2;generalize D.run s (.ended hu F mb)=rr at*;clear hn2 hR aQ hv X0 B1 B2 fh hth hh0 HT hx hrd hkd hn aN ht hmp hsl;generalize hu.at_=ha at*;generalize t.id=tid at*;generalize D.word (af F 1)=x at*;go_enter Tryz.func210,Tryz.ntmps210;go_wp2_with fail
 go_region_held3 (fun G=>zS G b0 0 bh 0∧zV G b1 0 F∧zS G bh 0 A.Y 0∧zS G A.Y 2 A.ba 0)
  (first|exact⟨c0,c1,h0,e2⟩|assumption|exact HKK.out _ q1 q4|exact HKK.out _ (q1.alloc _) (q4.trans (Grow.alloc _ _ _))|exact HKK.out _ r2 g2|exact HKK.out _ (r2.alloc _) (g2.trans (Grow.alloc _ _ _))|exact HKK.out _ (HST.out _ _ r2 g2 Z FX.out).1 (HST.out _ _ r2 g2 Z FX.out).2.1|go_keep)
  (first|(go_at_call 85;refine (O0.out _).mono ?_;rintro e G ⟨rfl,rfl⟩)|(go_at_call 42;refine (HL.out _ BM.out).mono ?_;rintro e H ⟨rfl,q1,q2⟩;have q4:=HG.out.trans q2)|(go_at_call 42;refine (HL.out _ (BM.out.alloc _)).mono ?_;rintro e H ⟨rfl,q1,q2⟩;have q4:=(HG.out.trans (Grow.alloc _ _ _)).trans q2;have Rm:=U (Mf.out.grow q2))|(go_at_call 108;refine (GI.out _).mono ?_;rintro e w2 ⟨rfl,hq⟩;have r2:=q1.below hq;have g2:=q4.trans (Grow.below hq);have FX:=U (Rm.out.grow (Grow.below hq));have Z:=zr w.heap.size;have O3:=FX.out.cell 0 (v:=I 0) rfl;have Mm:=FX.out.cell 1 (v:=zu 0) rfl;have O4:=FX.out.frozen 0;have O5:=FX.out.frozen 1)|(go_at_call 108;refine (GI.out _).mono ?_;rintro e w2 ⟨rfl,hq⟩;have r2:=(q1.alloc _).below hq;have g2:=(q4.trans (Grow.alloc A.L _ _)).trans (Grow.below hq);have FX:=U ((dO q1.mem.fresh (.cells #[I 0,zu 0] 217) rfl).grow (Grow.below (L:=A.L) hq));have Z:=Rl.out _ q4;have O3:=FX.out.cell 0 (v:=I 0) rfl;have Mm:=FX.out.cell 1 (v:=zu 0) rfl;have O4:=FX.out.frozen 0;have O5:=FX.out.frozen 1)|(go_at_call 108;refine (GI.out _).mono ?_;rintro e w2 ⟨rfl,hq⟩;have r2:=q1.below hq;have g2:=q4.trans (Grow.below hq)))
 all_goals
  rename_i dz;clear dz x0 x1 x2 x3 c0 c1 h0 e2
  first
  | (have HZ := U (HST.out _ _ r2 g2 Z FX.out)
     clear FX Z O3 Mm O4 O5 r2 g2 q1 q4
     generalize hW:(World.setCell _ _ _).setCell _ _=W at *)
  | (have HZ := U (zA (r2.alloc (.cells #[I (kd : Int), zu (n : Int)] 217)) (zA (g2.trans (Grow.alloc _ _ (.cells #[I (kd : Int), zu (n : Int)] 217))) (dO r2.mem.fresh (.cells #[I (kd : Int), zu (n : Int)] 217) rfl)))
     clear r2 g2 q1 q4
     generalize hW:w2.alloc _=W at *)
  obtain⟨r3,g3,f3⟩:=HZ.out;have s0:=f3.cell 0 (v:=I kd) rfl;have s1:=f3.cell 1 (v:=zu n) rfl;obtain⟨d0,d1,d2,h0,h1,h3,t0⟩:=HB.out W r3 g3;clear f3 r3 g3 hW hq q2;have hn2:=O1.out;clear O1
  by_cases k1:kd=1
  . have fa1:((kd:Int)==1)=true:=by simp<;>omega
    have fa2:((kd:Int)=1)=True:=by simp<;>omega
    have fa3:(kd=1)=True:=by simp<;>omega
    have fa4:(kd==1)=true:=by simp<;>omega
    have fa5:((kd:Int) !=1)=false:=by simp<;>omega
    obtain⟨JP,JQ,JR,JS,JU⟩:=o9 (x:=kd) (c:=2) (ci:=2) (by omega)
    by_cases hna:n<=ha
    . have HE:=U (rf.out.trans (aV ⟨k1,hna⟩))
      obtain⟨Gq,Gr,Gs,Gt⟩:=SG (x:=n) (c:=ha) (xi:=(n:Int)) (ci:=(ha:Int)) (by omega);subst k1;clear hna;go_wp2_with fail
      go_quiet (fail)
      go_wp2_with (go_at_call 201;refine (Ae.out _ (HZ.out.1.drewN _) (HZ.out.2.1.trans (Grow.drewN _ _ _))).mono ?_;rintro e w4 ⟨A2,v,rfl,p1,p2,p3,p4⟩);go_ret;rw[HE.out];exact⟨A2,v,rfl,p1,(HZ.out.2.1.trans (Grow.drewN _ _ _)).trans p2,p3,p4⟩
    . have HE:=U ((rf.out.trans (aX (fun h=>hna h.2))).trans (aV (Or.inl (by omega))))
      obtain⟨Gq,Gr,Gs,Gt⟩:=SH (x:=n) (c:=ha) (xi:=(n:Int)) (ci:=(ha:Int)) (by omega);subst k1;clear hna;go_wp2_with fail
      go_quiet (fail)
      go_wp2_with fail
      go_quiet (fail)
      go_wp2_with (go_at_call 211;refine (uu.out _ (HZ.out.1.drewN _) (HZ.out.2.1.trans (Grow.drewN _ _ _))).mono ?_;rintro e w4 ⟨A2,v,rfl,p1,p2,p3,p4⟩);go_ret;rw[HE.out];exact⟨A2,v,rfl,p1,(HZ.out.2.1.trans (Grow.drewN _ _ _)).trans p2,p3,p4⟩
  . have JV:=U (rf.out.trans (aX (fun h=>k1 h.1)))
    obtain⟨fa1,fa2,fa3,fa4,fa5⟩:=o9 (x:=kd) (c:=1) (ci:=1) (by omega)
    by_cases k2:kd=2
    . have JP:((kd:Int)==2)=true:=by simp<;>omega
      have JQ:((kd:Int)=2)=True:=by simp<;>omega
      have JR:(kd=2)=True:=by simp<;>omega
      have JS:(kd==2)=true:=by simp<;>omega
      have JU:((kd:Int) !=2)=false:=by simp<;>omega
      have LG:=hn2 k2;have ew:IntKind.i64.wrap (n:Int)=(n:Int):=by rw[jH];omega
      by_cases hni:n=tid
      . have HE:=U (JV.out.trans (aV (Or.inr hni)))
        obtain⟨Gq,Gr,Gs,Gt,Rn⟩:=qX (x:=n) (c:=tid) (ci:=(tid:Int)) (by omega);subst k2;clear k1 hni LG;go_wp2_with fail
        go_quiet (fail)
        go_wp2_with fail
        go_quiet (fail)
        go_wp2_with (go_at_call 211;refine (uu.out _ (HZ.out.1.drewN _) (HZ.out.2.1.trans (Grow.drewN _ _ _))).mono ?_;rintro e w4 ⟨A2,v,rfl,p1,p2,p3,p4⟩);go_ret;rw[HE.out];exact⟨A2,v,rfl,p1,(HZ.out.2.1.trans (Grow.drewN _ _ _)).trans p2,p3,p4⟩
      . have HE:=U (JV.out.trans (aX (by omega)))
        obtain⟨Gq,Gr,Gs,Gt,Rn⟩:=o9 (x:=n) (c:=tid) (ci:=(tid:Int)) (by omega);subst k2;clear k1 hni LG;go_wp2_with fail
        go_quiet (fail)
        go_wp2_with fail
        go_quiet (fail)
        go_wp2_with (go_at_call 212;refine (Ml.out _ (HZ.out.1.drewN _) (HZ.out.2.1.trans (Grow.drewN _ _ _))).mono ?_;rintro e w4 ⟨A2,v,rfl,p1,p2,p3,p4⟩);go_ret;rw[HE.out];exact⟨A2,v,rfl,p1,(HZ.out.2.1.trans (Grow.drewN _ _ _)).trans p2,p3,p4⟩
    . have HE:=U (JV.out.trans (aV (Or.inl k2)))
      obtain⟨JP,JQ,JR,JS,JU⟩:=o9 (x:=kd) (c:=2) (ci:=2) (by omega);clear k1 k2;go_wp2_with fail
      go_quiet (fail)
      go_wp2_with fail
      go_quiet (fail)
      go_wp2_with (go_at_call 211;refine (uu.out _ (HZ.out.1.drewN _) (HZ.out.2.1.trans (Grow.drewN _ _ _))).mono ?_;rintro e w4 ⟨A2,v,rfl,p1,p2,p3,p4⟩);go_ret;rw[HE.out];exact⟨A2,v,rfl,p1,(HZ.out.2.1.trans (Grow.drewN _ _ _)).trans p2,p3,p4⟩
theorem O6 {A:au} {D:St} {w:World} (hR:aD A D w) (s:Nat) (t:bB) (ht:D.ag.getD s none=some t) (F:Nat) (hv:VL D F) (hx:D.word (af F 1)<18446744073709551616) (aQ:D.count<4000000000000000000) (b0 b1 b2 b3:Nat)
 (B0:aK A.L w b0 (R A.Y 0)) (B1:aK A.L w b1 (zu F)) (B2:aK A.L w b2 (R (A.bt s) 0)) (B3:aK A.L w b3 (R (A.bc s) 0)):
 zk 155 #[R b0 0,R b1 0,R b2 0,R b3 0] w (jO A w s (D.run s (.own F))):=by
 have hsl:=hR.sl;have c0:=B0.cell;have c1:=B1.cell;have e2:=hR.z2;have O0:=U (gF F 1 1 rfl hv.lo (by have:=hv.hi;omega) hv.u (by omega));have HL:Hid (∀ G,aD A D G->zk 42 #[R A.ba 0,I ((af F 1:Nat):Int)] G (FD A G D.tick (zu (D.word (af F 1):Int)))):=fun G r=>gM r (af F 1) (fI hR hv.lo hv.hi (by omega)) aQ
 have HKK:Hid (∀ G,aD A D.tick G->Grow A.L w A.L G->zS G b0 0 A.Y 0∧zV G b1 0 F∧zS G A.Y 2 A.ba 0):=fun G r g=>⟨(B0.grow g).cell,(B1.grow g).cell,r.eH 2 rfl⟩
 have hrd:=yf (D.word (af F 1)) hx;have GI:=U hrd;have BM:Hid (aD A D w.drew):=hR.drew;have HG:=zG A.L w;have Mf:Hid (Fix A.L (w.drew.alloc (.cells #[zu 0] 25)) w.heap.size (.cells #[zu 0] 25)):=dO hR.drew.mem.fresh _ rfl;have x0:=World.new_ne w _ c0;have x1:=World.new_ne w _ c1;have x3:=World.new_ne w _ e2;have hn2:(rd (D.word (af F 1))).1=2->(rd (D.word (af F 1))).2<=65535:=by
  intro h;have:=(tX (D.word (af F 1)) hx).2.1 h;omega
 have aN:D.run s (.own F)=if (rd (D.word (af F 1))).1=3 then (D.tick,some (.claim F (D.word (af F 1)))) else if (rd (D.word (af F 1))).1=2 then (D.tick,some (.fG F (D.word (af F 1)) (rd (D.word (af F 1))).2)) else (D.tick,some (.abort 14 2)):=by
  simp only[St.run]
 have rf:=U aN;have O1:=U hn2;generalize D.run s (.own F)=rr at*;have hl0:A.L w.heap.size=none:=hR.mem.fresh _ (zr _);have EH:Hid (∀ G,aD A D.tick G->Grow A.L w A.L G->aD A D.tick (G.setCell (J w.heap.size 0) (zu (D.word (af F 1):Int)))∧Grow A.L w A.L (G.setCell (J w.heap.size 0) (zu (D.word (af F 1):Int)))):=fun G r g=>hR.mg r g rfl rfl (a:=(J w.heap.size 0)) (zr _) hl0 (zu (D.word (af F 1):Int))
 have HB:Hid (∀ H,aD A D.tick H->Grow A.L w A.L H->zS H b0 0 A.Y 0∧zV H b1 0 F∧zS H b2 0 (A.bt s) 0∧zS H b3 0 (A.bc s) 0):=fun H q g=>⟨(B0.grow g).cell,(B1.grow g).cell,(B2.grow g).cell,(B3.grow g).cell⟩
 have HX:=U (zA B0 (zA B1 (zA B2 B3)));have OT:Hid (∀ H,aD A D.tick H->zk 97 #[R A.Y 0,R (A.bt s) 0,R (A.bc s) 0,I 14,I 2] H (aZ A H s (D.tick,.abort 14 2))):=fun H q=>iP q s 14 2
 have QU:Hid (∀ (x:Nat) H,aD A D.tick H->zk 156 #[R A.Y 0,R (A.bt s) 0,R (A.bc s) 0,zu F,zu x] H (aZ A H s (D.tick,.claim F x))):=fun x H q=>wK q s F x
 clear hR aQ hv hx hrd aN ht hsl B0 B1 B2 B3 hl0 hn2;generalize (rd (D.word (af F 1))).1=kd at*;generalize (rd (D.word (af F 1))).2=n at*;generalize D.word (af F 1)=x at*;go_enter Tryz.func155,Tryz.ntmps155;go_wp2_with fail
 go_region_held3 (fun G=>zS G b0 0 A.Y 0∧zV G b1 0 F∧zS G A.Y 2 A.ba 0)
  (first|exact⟨c0,c1,e2⟩|assumption|exact HKK.out _ q1 q4|exact HKK.out _ (q1.alloc _) (q4.trans (Grow.alloc _ _ _))|exact HKK.out _ (EH.out _ q1 q4).1 (EH.out _ q1 q4).2|go_keep)
  (first|(go_at_call 85;refine (O0.out _).mono ?_;rintro e G ⟨rfl,rfl⟩)|(go_at_call 42;refine (HL.out _ BM.out).mono ?_;rintro e H ⟨rfl,q1,q2⟩;have q4:=HG.out.trans q2)|(go_at_call 42;refine (HL.out _ (BM.out.alloc _)).mono ?_;rintro e H ⟨rfl,q1,q2⟩;have q4:=(HG.out.trans (Grow.alloc _ _ _)).trans q2;have FX:=U (Mf.out.grow q2);have nb:=FX.out.cell 0 (v:=zu 0) rfl;have nz:=FX.out.frozen 0))
 all_goals
  rename_i dz;clear dz x0 x1 x3 c0 c1 e2
  first
  | (have HZ := U (zA (EH.out _ q1 q4).1 (zA (EH.out _ q1 q4).2 (FX.out.sU (zu (x : Int)))))
     clear FX nb nz q1 q4
     generalize hW:World.setCell _ _ _=W at *)
  | (have HZ := U (zA (q1.alloc (.cells #[zu (x : Int)] 25)) (zA (q4.trans (Grow.alloc _ _ (.cells #[zu (x : Int)] 25))) (dO q1.mem.fresh (.cells #[zu (x : Int)] 25) rfl)))
     clear q1 q4
     generalize hW:H.alloc _=W at *)
  have s5:=HZ.out.2.2.cell 0 (v:=zu x) rfl;clear q2 hW;have hn2:=O1.out;clear O1
  by_cases k3:kd=3
  . have HE:=U (rf.out.trans (aV k3))
    obtain⟨fa1,fa2,fa3,fa4,fa5⟩:=qX (x:=kd) (c:=3) (ci:=3) (by omega);subst k3;clear hn2;go_wp2_with (first|(go_at_call 108;refine (GI.out _).mono ?_;rintro e w2 ⟨rfl,hq⟩;have gq:=Grow.below (L:=A.L) hq;obtain⟨r3,g3,f3⟩:=cB (HZ.out.1.below hq) #[I (3:Int),zu n] 217;have s0:=f3.cell 0 (v:=I (3:Int)) rfl;have s1:=f3.cell 1 (v:=zu n) rfl;have g4:=(HZ.out.2.1.trans gq).trans g3;have Ti:=((HZ.out.2.2.grow gq).grow g3).cell 0 (v:=zu x) rfl;obtain⟨d0,d1,d2,d3⟩:=HB.out _ r3 g4;have HF:=U (zA r3 (zA g4 ((HZ.out.2.2.grow gq).grow g3)));clear r3 g3 f3 gq g4 hq)|(go_at_call 156;refine (QU.out x _ HF.out.1).mono ?_;rintro e w4 ⟨A2,v,rfl,p1,p2,p3,p4⟩));go_ret;rw[HE.out];exact⟨A2,v,rfl,p1,HF.out.2.1.trans p2,p3,p4⟩
  . have JV:=U (rf.out.trans (aX k3))
    obtain⟨fa1,fa2,fa3,fa4,fa5⟩:=o9 (x:=kd) (c:=3) (ci:=3) (by omega)
    by_cases k2:kd=2
    . have HE:=U (JV.out.trans (aV k2))
      have LG:=hn2 k2;have ew:IntKind.i64.wrap (n:Int)=(n:Int):=by rw[jH];omega
      obtain⟨Gq,Gr,Gs,Gt,Rn⟩:=qX (x:=kd) (c:=2) (ci:=2) (by omega);subst k2;clear hn2 LG k3;go_wp2_with (go_at_call 108;refine (GI.out _).mono ?_;rintro e w2 ⟨rfl,hq⟩;have gq:=Grow.below (L:=A.L) hq;obtain⟨r3,g3,f3⟩:=cB (HZ.out.1.below hq) #[I (2:Int),zu n] 217;have s0:=f3.cell 0 (v:=I (2:Int)) rfl;have s1:=f3.cell 1 (v:=zu n) rfl;have g4:=(HZ.out.2.1.trans gq).trans g3;have Ti:=((HZ.out.2.2.grow gq).grow g3).cell 0 (v:=zu x) rfl;obtain⟨d0,d1,d2,d3⟩:=HB.out _ r3 g4;have HF:=U (zA r3 (zA g4 ((HZ.out.2.2.grow gq).grow g3)));clear r3 g3 f3 gq g4 hq);obtain⟨r5,g5,f5⟩:=cB HF.out.1 #[I n] 3;rw[jh] at f5;have gg:=HF.out.2.1.trans g5;have HY:=U (zA r5 (zA gg (zA f5 (HF.out.2.2.grow g5))));go_ret;rw[HE.out];obtain⟨X0,X1,X2,X3⟩:=HX.out;obtain⟨r5,gg,f5,f6⟩:=HY.out;exact⟨A,_,rfl,r5,gg,bL.refl _ _,_,_,_,_,_,_,rfl,X0.grow gg,f5.box,X2.grow gg,X3.grow gg,X1.grow gg,f6.box⟩
    . have HE:=U (JV.out.trans (aX k2))
      obtain⟨Gq,Gr,Gs,Gt,Rn⟩:=o9 (x:=kd) (c:=2) (ci:=2) (by omega);clear k3 k2 hn2;go_wp2_with (first|(go_at_call 108;refine (GI.out _).mono ?_;rintro e w2 ⟨rfl,hq⟩;have gq:=Grow.below (L:=A.L) hq;obtain⟨r3,g3,f3⟩:=cB (HZ.out.1.below hq) #[I kd,zu n] 217;have s0:=f3.cell 0 (v:=I kd) rfl;have s1:=f3.cell 1 (v:=zu n) rfl;have g4:=(HZ.out.2.1.trans gq).trans g3;have Ti:=((HZ.out.2.2.grow gq).grow g3).cell 0 (v:=zu x) rfl;obtain⟨d0,d1,d2,d3⟩:=HB.out _ r3 g4;have HF:=U (zA r3 (zA g4 ((HZ.out.2.2.grow gq).grow g3)));clear r3 g3 f3 gq g4 hq)|(go_at_call 97;refine (OT.out _ HF.out.1).mono ?_;rintro e w4 ⟨A2,v,rfl,p1,p2,p3,p4⟩));go_ret;rw[HE.out];exact⟨A2,v,rfl,p1,HF.out.2.1.trans p2,p3,p4⟩
theorem Mo {A:au} {D:St} {w:World} (hR:aD A D w) (s:Nat) (t:bB) (ht:D.ag.getD s none=some t) (F head at_:Nat) (hv0:F=0∨VL D F) (hva:VL D at_) (hp:iL D) (hx:D.word (af at_ 0)<18446744073709551616) (aQ:D.count<4000000000000000000) (b0 b1 b2 b3 b4 b5:Nat)
 (B0:aK A.L w b0 (R A.Y 0)) (B1:aK A.L w b1 (zu at_)) (B2:aK A.L w b2 (R (A.bt s) 0)) (B3:jX (kp A D s) A.L w b3 F head at_) (B4:aK A.L w b4 (R (A.bc s) 0)) (B5:aK A.L w b5 (zu F)):
 zk 173 #[R b0 0,R b1 0,R b2 0,R b3 0,R b4 0,R b5 0] w (jO A w s (D.run s (.free F head at_))):=by
 have hsl:=hR.sl;obtain⟨nv,X3,m0,m1,m2,m3,m4,m5,QM,N0,N1,N2,N3,N4,N5⟩:=B3;have c0:=B0.cell;have c1:=B1.cell;have e2:=hR.z2;have O0:=U (gF at_ 0 0 rfl hva.lo (by have:=hva.hi;omega) hva.u (by omega));have HL:Hid (∀ G,aD A D G->zk 42 #[R A.ba 0,I ((af at_ 0:Nat):Int)] G (FD A G D.tick (zu (D.word (af at_ 0):Int)))):=fun G r=>gM r (af at_ 0) (fI hR hva.lo hva.hi (by omega)) aQ
 have HKK:Hid (∀ G,aD A D.tick G->Grow A.L w A.L G->zS G b0 0 A.Y 0∧zV G b1 0 at_∧zS G A.Y 2 A.ba 0):=fun G r g=>⟨(B0.grow g).cell,(B1.grow g).cell,r.eH 2 rfl⟩
 have hrd:=yf (D.word (af at_ 0)) hx;have GI:=U hrd;have BM:Hid (aD A D w.drew):=hR.drew;have HG:=zG A.L w;have Mf:Hid (Fix A.L (w.drew.alloc (.cells #[I 0,zu 0] 217)) w.heap.size (.cells #[I 0,zu 0] 217)):=dO hR.drew.mem.fresh _ rfl;have x0:=World.new_ne w _ c0;have x1:=World.new_ne w _ c1;have x3:=World.new_ne w _ e2;generalize hkd:(rd (D.word (af at_ 0))).1=kd at*;generalize hn:(rd (D.word (af at_ 0))).2=n at*;have HST:Hid (∀ w2 b,aD A D.tick w2->Grow A.L w A.L w2->w.heap.size<=b->Fix A.L w2 b (.cells #[I 0,zu 0] 217)->aD A D.tick ((w2.setCell (J b 0) (I kd)).setCell (J b 1) (zu n))∧Grow A.L w A.L ((w2.setCell (J b 0) (I kd)).setCell (J b 1) (zu n))∧Fix A.L ((w2.setCell (J b 0) (I kd)).setCell (J b 1) (zu n)) b (.cells #[I kd,zu n] 217)):=fun w2 b r g Z fx=>hR.stamp r g rfl Z fx _ _
 have Rl:Hid (∀ H,Grow A.L w A.L H->w.heap.size<=H.heap.size):=fun H g=>g.size
 have HB:Hid (∀ H,aD A D.tick H->Grow A.L w A.L H->zS H b0 0 A.Y 0∧zS H b2 0 (A.bt s) 0∧H.cell? (J b3 0)=some nv∧zS H b4 0 (A.bc s) 0∧zV H b5 0 F∧zV H (A.bt s) 3 t.aG):=
  fun H q g=>⟨(B0.grow g).cell,(B2.grow g).cell,(X3.grow g).cell,(B4.grow g).cell,(B5.grow g).cell,q.dZ (s:=s) (t:=t) ht 3 rfl⟩
 have Ld:Hid (∀ H,aD A D.tick H->Grow A.L w A.L H->zk 174 #[R A.Y 0,R (A.bt s) 0,R (A.bc s) 0,zu F] H (aZ A H s (D.tick.lost F))):=fun H q g=>Ab q s F (hv0.imp (fun h=>h) fun h=>⟨h.lo,h.hi,h.u⟩) ⟨hp.n,hp.free,hp.tag,hp.iA⟩
 have aN:D.run s (.free F head at_)=if kd=1∧n<=t.aG then (D.tick,some (.next F head at_)) else if kd≠2 then ((D.tick.lost F).1,some (D.tick.lost F).2) else (D.tick,some (.dB F head at_ n)):=by
  have e:D.tick.t s=t:=bQ ht;simp only[St.run,hkd,hn,e]
 have HX:Hid (aK A.L w b0 (R A.Y 0)∧aK A.L w b1 (zu at_)∧aK A.L w b2 (R (A.bt s) 0)∧aK A.L w b3 nv∧aK A.L w b4 (R (A.bc s) 0)∧aK A.L w b5 (zu F)∧aK A.L w m0 (ptr (kp A D s).e)∧aK A.L w m1 (ptr (kp A D s).t)∧aK A.L w m2 (ptr (kp A D s).c)∧aK A.L w m3 (u64 F)∧aK A.L w m4 (u64 head)∧aK A.L w m5 (u64 at_)):=⟨B0,B1,B2,X3,B4,B5,N0,N1,N2,N3,N4,N5⟩
 subst QM;have rf:=U aN;generalize D.run s (.free F head at_)=rr at*;clear hR aQ hva hv0 hp hx hrd hkd hn aN ht hsl B0 B1 B2 X3 B4 B5 N0 N1 N2 N3 N4 N5;generalize t.aG=bg at*;generalize D.word (af at_ 0)=x at*;go_enter Tryz.func173,Tryz.ntmps173;go_wp2_with fail
 go_region_held3 (fun G=>zS G b0 0 A.Y 0∧zV G b1 0 at_∧zS G A.Y 2 A.ba 0)
  (first|exact⟨c0,c1,e2⟩|assumption|exact HKK.out _ q1 q4|exact HKK.out _ (q1.alloc _) (q4.trans (Grow.alloc _ _ _))|exact HKK.out _ r2 g2|exact HKK.out _ (r2.alloc _) (g2.trans (Grow.alloc _ _ _))|exact HKK.out _ (HST.out _ _ r2 g2 Z FX.out).1 (HST.out _ _ r2 g2 Z FX.out).2.1|go_keep)
  (first|(go_at_call 85;refine (O0.out _).mono ?_;rintro e G ⟨rfl,rfl⟩)|(go_at_call 42;refine (HL.out _ BM.out).mono ?_;rintro e H ⟨rfl,q1,q2⟩;have q4:=HG.out.trans q2)|(go_at_call 42;refine (HL.out _ (BM.out.alloc _)).mono ?_;rintro e H ⟨rfl,q1,q2⟩;have q4:=(HG.out.trans (Grow.alloc _ _ _)).trans q2;have Rm:=U (Mf.out.grow q2))|(go_at_call 108;refine (GI.out _).mono ?_;rintro e w2 ⟨rfl,hq⟩;have r2:=q1.below hq;have g2:=q4.trans (Grow.below hq);have FX:=U (Rm.out.grow (Grow.below hq));have Z:=zr w.heap.size;have O3:=FX.out.cell 0 (v:=I 0) rfl;have Mm:=FX.out.cell 1 (v:=zu 0) rfl;have O4:=FX.out.frozen 0;have O5:=FX.out.frozen 1)|(go_at_call 108;refine (GI.out _).mono ?_;rintro e w2 ⟨rfl,hq⟩;have r2:=(q1.alloc _).below hq;have g2:=(q4.trans (Grow.alloc A.L _ _)).trans (Grow.below hq);have FX:=U ((dO q1.mem.fresh (.cells #[I 0,zu 0] 217) rfl).grow (Grow.below (L:=A.L) hq));have Z:=Rl.out _ q4;have O3:=FX.out.cell 0 (v:=I 0) rfl;have Mm:=FX.out.cell 1 (v:=zu 0) rfl;have O4:=FX.out.frozen 0;have O5:=FX.out.frozen 1)|(go_at_call 108;refine (GI.out _).mono ?_;rintro e w2 ⟨rfl,hq⟩;have r2:=q1.below hq;have g2:=q4.trans (Grow.below hq)))
 all_goals
  rename_i dz;clear dz x0 x1 x3 c0 c1 e2
  first
  | (have HZ := U (HST.out _ _ r2 g2 Z FX.out)
     clear FX Z O3 Mm O4 O5 r2 g2 q1 q4
     generalize hW:(World.setCell _ _ _).setCell _ _=W at *)
  | (have HZ := U (zA (r2.alloc (.cells #[I (kd : Int), zu (n : Int)] 217)) (zA (g2.trans (Grow.alloc _ _ (.cells #[I (kd : Int), zu (n : Int)] 217))) (dO r2.mem.fresh (.cells #[I (kd : Int), zu (n : Int)] 217) rfl)))
     clear r2 g2 q1 q4
     generalize hW:w2.alloc _=W at *)
  obtain⟨r3,g3,f3⟩:=HZ.out;have s0:=f3.cell 0 (v:=I kd) rfl;have s1:=f3.cell 1 (v:=zu n) rfl;obtain⟨d0,d2,d3,d4,d5,t3⟩:=HB.out W r3 g3;clear f3 r3 g3 hW hq q2
  by_cases k1:kd=1
  . have fa1:((kd:Int)==1)=true:=by simp<;>omega
    have fa2:((kd:Int)=1)=True:=by simp<;>omega
    have fa3:(kd=1)=True:=by simp<;>omega
    have fa4:(kd==1)=true:=by simp<;>omega
    have fa5:((kd:Int) !=1)=false:=by simp<;>omega
    obtain⟨JP,JQ,JR,JS,JU⟩:=o9 (x:=kd) (c:=2) (ci:=2) (by omega)
    by_cases hna:n<=bg
    . have HE:=U (rf.out.trans (aV ⟨k1,hna⟩))
      obtain⟨Gq,Gr,Gs,Gt⟩:=SG (x:=n) (c:=bg) (xi:=(n:Int)) (ci:=(bg:Int)) (by omega);subst k1;clear hna;go_wp2_with fail
      go_quiet (fail)
      go_wp2_with fail;go_ret;rw[HE.out];obtain⟨X0,X1,X2,X3,X4,X5,N0,N1,N2,N3,N4,N5⟩:=HX.out;have gg:=fun n=>HZ.out.2.1.trans (Grow.drewN _ _ n)
      exact⟨A,_,rfl,HZ.out.1.drewN _,gg _,bL.refl _ _,_,_,_,_,_,_,rfl,N0.grow (gg _),N1.grow (gg _),N2.grow (gg _),N3.grow (gg _),N4.grow (gg _),N5.grow (gg _)⟩
    . have HE:=U ((rf.out.trans (aX (fun h=>hna h.2))).trans (aV (by omega)))
      obtain⟨Gq,Gr,Gs,Gt⟩:=SH (x:=n) (c:=bg) (xi:=(n:Int)) (ci:=(bg:Int)) (by omega);subst k1;clear hna;go_wp2_with fail
      go_quiet (fail)
      go_wp2_with (go_at_call 174;refine (Ld.out _ (HZ.out.1.drewN _) (HZ.out.2.1.trans (Grow.drewN _ _ _))).mono ?_;rintro e w4 ⟨A2,v,rfl,p1,p2,p3,p4⟩);go_ret;rw[HE.out];exact⟨A2,v,rfl,p1,(HZ.out.2.1.trans (Grow.drewN _ _ _)).trans p2,p3,p4⟩
  . have JV:=U (rf.out.trans (aX (fun h=>k1 h.1)))
    obtain⟨fa1,fa2,fa3,fa4,fa5⟩:=o9 (x:=kd) (c:=1) (ci:=1) (by omega)
    by_cases k2:kd=2
    . have JP:((kd:Int)==2)=true:=by simp<;>omega
      have JQ:((kd:Int)=2)=True:=by simp<;>omega
      have JR:(kd=2)=True:=by simp<;>omega
      have JS:(kd==2)=true:=by simp<;>omega
      have JU:((kd:Int) !=2)=false:=by simp<;>omega
      have HE:=U (JV.out.trans (aX (fun h=>h k2)));subst k2;clear k1;go_wp2_with fail
      go_quiet (fail)
      go_wp2_with fail;go_ret;rw[HE.out];obtain⟨X0,X1,X2,X3,X4,X5,N0,N1,N2,N3,N4,N5⟩:=HX.out;have gd:=fun n=>Grow.drewN A.L W n
      have gg:=fun n=>HZ.out.2.1.trans (gd n)
      exact⟨A,_,rfl,HZ.out.1.drewN _,gg _,bL.refl _ _,_,_,_,_,_,_,rfl,X0.grow (gg _),⟨_,HZ.out.2.2.grow (gd _)⟩,X2.grow (gg _),⟨_,X3.grow (gg _),_,_,_,_,_,_,rfl,N0.grow (gg _),N1.grow (gg _),N2.grow (gg _),N3.grow (gg _),N4.grow (gg _),N5.grow (gg _)⟩,X4.grow (gg _),X5.grow (gg _)⟩
    . have HE:=U (JV.out.trans (aV k2))
      obtain⟨JP,JQ,JR,JS,JU⟩:=o9 (x:=kd) (c:=2) (ci:=2) (by omega);clear k1 k2;go_wp2_with fail
      go_quiet (fail)
      go_wp2_with (go_at_call 174;refine (Ld.out _ (HZ.out.1.drewN _) (HZ.out.2.1.trans (Grow.drewN _ _ _))).mono ?_;rintro e w4 ⟨A2,v,rfl,p1,p2,p3,p4⟩);go_ret;rw[HE.out];exact⟨A2,v,rfl,p1,(HZ.out.2.1.trans (Grow.drewN _ _ _)).trans p2,p3,p4⟩
end Go.Proofs.YthicolbbmjfkfaaGreat.Em
