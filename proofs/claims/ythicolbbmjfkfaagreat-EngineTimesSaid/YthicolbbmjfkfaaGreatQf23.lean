import Derived.Test.YthicolbbmjfkfaaGreatQf22
import Derived.Test.YthicolbbmjfkfaaGreatQf18
set_option linter.unusedVariables false
set_option linter.unusedSimpArgs false
set_option maxRecDepth 100000
set_option maxHeartbeats 1600000
namespace Go.Proofs.YthicolbbmjfkfaaGreat.Em
open Go.ChangeShapes Go.WideShapes Go.ChangeAt Go.RowKit En
variable {A:az} {D:St} {w:World}
theorem wZ (s:Nat):∃ k,nE s=some k:=by
 unfold nE mG
 split
 . exact⟨_,rfl⟩
 . exact⟨_,rfl⟩
theorem Rh (hR:aF A D w) (s:Nat) (hs:s<8) (aN:D.count<4000000000000000000) (b0 b1:Nat) (B0:aP A.L w b0 (R A.V 0)) (B1:aP A.L w b1 (I s)):
 zk 136 #[R b0 0,R b1 0] w (sN A D w (D.aH (.live s))):=by
 have c0:=B0.cell;have c1:=B1.cell;have e2:=hR.z2;have n1:IntKind.i64.wrap (1+(s:Int))=1+(s:Int):=by rw[je];omega
 have n2:IntKind.i64.wrap ((s:Int)+1)=((s+1:Nat):Int):=by rw[je];omega
 have HL:Hid (∀ E,aF A D E->zk 42 #[R A.ba 0,I (1+(s:Int))] E (uL A E D.tick (zu (D.word (1+s):Int)))):=fun E r=>iP r (1+s) (1+(s:Int)) (by omega) (by rw[r.nw];omega) aN
 have nM:Hid (aF A D w.drew):=hR.drew;have HG:=zG A.L w;have HKK:Hid (∀ bF E,aF A bF E->Grow A.L w A.L E->zS E b0 0 A.V 0∧zT E b1 0 s∧zS E A.V 2 A.ba 0):=fun bF E r g=>⟨(B0.grow g).cell,(B1.grow g).cell,r.bT 2 rfl⟩
 have uS:Hid (∀ bF E x,aF A bF E->Grow A.L w A.L E->zS (E.setCell (J A.V 25) x) b0 0 A.V 0∧zT (E.setCell (J A.V 25) x) b1 0 s∧zS (E.setCell (J A.V 25) x) A.V 2 A.ba 0):=fun bF E x r g=>let ⟨r',g'⟩:=r.fV x .now;⟨(B0.grow (g.trans g')).cell,(B1.grow (g.trans g')).cell,r'.bT 2 rfl⟩
 have HM:Hid (∀ bF E,aF A bF E->zk 101 #[R A.V 0,I ((s+1:Nat):Int)] E (iQ A bF E (nE (s+1)))):=fun bF E r=>zg r (s+1) (by omega)
 obtain⟨kx,hkx⟩:=wZ (s+1);have jU:D.aH (.live s)=({D.tick with low:=if 0<D.word (1+s) then min D.low (D.word (1+s)) else D.low,sw:=some kx},false):=by rw[<-hkx];rfl
 rw[jU];clear hR aN B0 B1 jU;generalize D.word (1+s)=at_ at*;generalize ((s+1:Nat):Int)=s1 at*
 by_cases h0:0<at_
 . have f1:((0:Int)<(at_:Int))=True:=by simp;omega
   have f2:decide ((0:Int)<(at_:Int))=true:=by simp;omega
   have f3:decide (0<at_)=true:=by simp;omega
   have f4:(0<at_)=True:=by simp;omega
   have hmin:((min D.low at_:Nat):Int)=(if at_<D.low then (at_:Int) else (D.low:Int)):=by split<;>omega
   have Ri:Hid (∀ E,aF A D.tick E->aF A {D.tick with low:=min D.low at_} (E.setCell (J A.V 26) (zu ((min D.low at_:Nat):Int)))∧Grow A.L E A.L (E.setCell (J A.V 26) (zu ((min D.low at_:Nat):Int)))):=fun E r=>r.JP _
   rw[hmin] at Ri;generalize min D.low at_=mn at*;clear hmin;rw[aW h0];clear h0;go_enter Tryz.func136,Tryz.ntmps136;go_wp2_with fail
   go_region_held3 (fun E=>zS E b0 0 A.V 0∧zT E b1 0 s∧zS E A.V 2 A.ba 0)
    (first|exact⟨c0,c1,e2⟩|assumption|go_keep|exact HKK.out _ _ (by assumption) (by assumption))
    (first|(go_at_call 42;refine (HL.out _ nM.out).mono ?_;rintro e H ⟨rfl,q1,q2⟩;have q4:=HG.out.trans q2))
   obtain⟨d0,d1,d2⟩:=HKK.out _ _ q1 q4;have V4:H.cell? (J A.V 26)=zv (D.low:Int):=q1.bT 26 rfl;have z26:=q1.iE 26;have HQ:=U (zA q1 q4);clear q1 q2 q4;go_wp2_with fail;refine wp_region_still_tail 11 (by kernel_rfl) (by kernel_rfl) ?_;simp only[jZ,j6,kg,kr]
   repeat still_step
   refine wpStill_nil ?_;change wpList _ _ _ _ _ H.drew;have Y4:H.drew.cell? (J A.V 26)=zv (D.low:Int):=V4;have Y5:H.drew.frozen? (J A.V 26)=false:=z26;have Fh:=U (zA HQ.out.1.drew (HQ.out.2.trans (Grow.drew _ _)));clear V4 z26 HQ d0 d1 d2;generalize H.drew=wd at*;obtain⟨r3,g3⟩:=Ri.out _ Fh.out.1;have UQ:=U (zA r3 (Fh.out.2.trans g3));clear r3 g3 Fh Ri;generalize (if at_<D.low then (at_:Int) else (D.low:Int))=mz at*;go_upto_region 4 with fail
   generalize wd.setCell (J A.V 26) (zu mz)=we at*;obtain⟨d0,d1,d2⟩:=HKK.out _ _ (UQ.out.1) (UQ.out.2);have tZ:=U (UQ.out.1).drew;have AX:=U ((UQ.out.2).trans (Grow.drew _ _));go_wp2_with fail
   go_region_held3 (fun E=>zS E b0 0 A.V 0∧zT E b1 0 s∧zS E A.V 2 A.ba 0)
    (first|exact⟨d0,d1,d2⟩|assumption|go_keep|exact HKK.out _ _ (by assumption) (by assumption)|exact uS.out _ _ _ (by assumption) (by assumption))
    (first|(go_at_call 101;refine (HM.out _ _ tZ.out).mono ?_;rintro e w2 ⟨v,rfl,p1,p2,p3⟩;rw[hkx] at p3;obtain⟨fv,fb,fc,e3⟩:=jA.form p3;subst e3;have z25:=p1.iE 25;obtain⟨vo,y25⟩:∃ vo,w2.cell? (J A.V 25)=some vo:=⟨_,p1.bT 25 rfl⟩;have q5:=AX.out.trans p2;have HP:=U p3;clear p2 p3))
   go_wp2_with fail;go_ret;obtain⟨A',a1,a2,a3,a4,a5⟩:=p1.fB _ _ HP.out;exact⟨rfl,A',a1,a3,q5.trans a4,a5,fun hc=>hc.keep a2 rfl (q5.trans a4)⟩
 . have f1:((0:Int)<(at_:Int))=False:=by simp;omega
   have f2:decide ((0:Int)<(at_:Int))=false:=by simp;omega
   have f3:decide (0<at_)=false:=by simp;omega
   have f4:(0<at_)=False:=by simp;omega
   rw[bu h0];clear h0;go_enter Tryz.func136,Tryz.ntmps136;go_wp2_with fail
   go_region_held3 (fun E=>zS E b0 0 A.V 0∧zT E b1 0 s∧zS E A.V 2 A.ba 0)
    (first|exact⟨c0,c1,e2⟩|assumption|go_keep|exact HKK.out _ _ (by assumption) (by assumption))
    (first|(go_at_call 42;refine (HL.out _ nM.out).mono ?_;rintro e H ⟨rfl,q1,q2⟩;have q4:=HG.out.trans q2))
   obtain⟨d0,d1,d2⟩:=HKK.out _ _ (q1) (q4);have tZ:=U (q1).drew;have AX:=U ((q4).trans (Grow.drew _ _));go_wp2_with fail
   go_region_held3 (fun E=>zS E b0 0 A.V 0∧zT E b1 0 s∧zS E A.V 2 A.ba 0)
    (first|exact⟨d0,d1,d2⟩|assumption|go_keep|exact HKK.out _ _ (by assumption) (by assumption)|exact uS.out _ _ _ (by assumption) (by assumption))
    (first|(go_at_call 101;refine (HM.out _ _ tZ.out).mono ?_;rintro e w2 ⟨v,rfl,p1,p2,p3⟩;rw[hkx] at p3;obtain⟨fv,fb,fc,e3⟩:=jA.form p3;subst e3;have z25:=p1.iE 25;obtain⟨vo,y25⟩:∃ vo,w2.cell? (J A.V 25)=some vo:=⟨_,p1.bT 25 rfl⟩;have q5:=AX.out.trans p2;have HP:=U p3;clear p2 p3))
   go_wp2_with fail;go_ret;obtain⟨A',a1,a2,a3,a4,a5⟩:=p1.fB _ _ HP.out;exact⟨rfl,A',a1,a3,q5.trans a4,a5,fun hc=>hc.keep a2 rfl (q5.trans a4)⟩
theorem LJ (hR:aF A D w) (aN:D.count<4000000000000000000) (hx:D.word 0<18446744073709551616):
 zk 74 #[R A.V 0] w (sN A D w (D.aH .now)):=by
 have e2:=hR.z2;have HL:Hid (zk 42 #[R A.ba 0,I 0] w (uL A w D.tick (zu (D.word 0:Int)))):=iP hR 0 0 rfl (by rw[hR.nw];omega) aN;have HD:=U (jI (D.word 0) hx);have HM:Hid (∀ bF E,aF A bF E->zk 101 #[R A.V 0,I 0] E (iQ A bF E (nE 0))):=fun bF E r=>zg r 0 (by omega)
 obtain⟨kx,hkx⟩:=wZ 0;have jU:D.aH .now=({D.tick with low:=aj (D.word 0),sw:=some kx},false):=by rw[<-hkx];rfl
 rw[jU];clear hR aN hx jU;generalize aj (D.word 0)=tt at*;generalize (D.word 0:Int)=x0 at*;go_enter Tryz.func74,Tryz.ntmps74;go_wp2_with (first|(go_at_call 42;refine HL.out.mono ?_;rintro e H ⟨rfl,q1,q2⟩;have V4:H.cell? (J A.V 26)=zv (D.low:Int):=(q1.bT 26 rfl);have z26:=q1.iE 26;have hls:=q1.JP tt;have HQ:=U (zA hls.1 (q2.trans hls.2));clear q1 q2 hls)|(go_at_call 43;refine (HD.out _).mono ?_;rintro e w9 ⟨rfl,rfl⟩)|(go_at_call 101;refine (HM.out _ _ HQ.out.1).mono ?_;rintro e w2 ⟨v,rfl,p1,p2,p3⟩;rw[hkx] at p3;obtain⟨fv,fb,fc,e3⟩:=jA.form p3;subst e3;have z25:=p1.iE 25;obtain⟨vo,y25⟩:∃ vo,w2.cell? (J A.V 25)=some vo:=⟨_,p1.bT 25 rfl⟩;have q5:=HQ.out.2.trans p2;have HP:=U p3;clear p2 p3));go_ret;obtain⟨A',a1,a2,a3,a4,a5⟩:=p1.fB _ _ HP.out;exact⟨rfl,A',a1,a3,q5.trans a4,a5,fun hc=>hc.keep a2 rfl (q5.trans a4)⟩
theorem DT (hR:aF A D w) (F ak G b:Nat) (hv:VL D G) (hw:D.word (af G 1)<18446744073709551616) (hg:dC (D.word (af G 1)) D.low=true) (aN:D.count<4000000000000000000) (b0:Nat) (b1:Nat) (b2:Nat) (b3:Nat) (b4:Nat) (B0:aP A.L w b0 (zu b)) (B1:aP A.L w b1 (R A.V 0)) (B2:aP A.L w b2 (zu G)) (B3:aP A.L w b3 (I F)) (B4:aP A.L w b4 (zu ak)):
 zk 198 #[R b0 0,R b1 0,R b2 0,R b3 0,R b4 0] w (sN A D w (D.aH (.dC F ak G b))):=by
 have c0:=B0.cell;have c1:=B1.cell;have c2:=B2.cell;have c3:=B3.cell;have c4:=B4.cell;have e2:=hR.z2;have e3:w.cell? (J A.V 26)=zv (D.low:Int):=hR.bT 26 rfl;have hsl:=hR.sl;have HS:=U (eD G 1 1 rfl hv.lo (by have:=hv.hi;omega) hv.u (by omega));have Ud:=U (C8 b (D.word (af G 1)) D.low hw);have HL:Hid (∀ E,aF A D E->zk 42 #[R A.ba 0,I (((af G 1:Nat):Int))] E (uL A E D.tick (zu (D.word (af G 1):Int)))):=fun E r=>iP r (af G 1) (((af G 1:Nat):Int)) rfl (dD r hv.lo hv.hi (by omega)) aN
 have nM:Hid (aF A D w.drew):=hR.drew;have HKK:Hid (∀ E,aF A D.tick E->Grow A.L w A.L E->zV E b0 0 b∧zS E b1 0 A.V 0∧zV E b2 0 G∧zT E b3 0 F∧zV E b4 0 ak∧zS E A.V 2 A.ba 0∧zV E A.V 26 (D.low:Int)):=fun E r g=>⟨(B0.grow g).cell,(B1.grow g).cell,(B2.grow g).cell,(B3.grow g).cell,(B4.grow g).cell,r.bT 2 rfl,r.bT 26 rfl⟩
 have uS:Hid (∀ E x,aF A D.tick E->Grow A.L w A.L E->zV (E.setCell (J A.V 25) x) b0 0 b∧zS (E.setCell (J A.V 25) x) b1 0 A.V 0∧zV (E.setCell (J A.V 25) x) b2 0 G∧zT (E.setCell (J A.V 25) x) b3 0 F∧zV (E.setCell (J A.V 25) x) b4 0 ak∧zS (E.setCell (J A.V 25) x) A.V 2 A.ba 0∧zV (E.setCell (J A.V 25) x) A.V 26 (D.low:Int)):=fun E x r g=>let ⟨r',g'⟩:=r.fV x .now;⟨(B0.grow (g.trans g')).cell,(B1.grow (g.trans g')).cell,(B2.grow (g.trans g')).cell,(B3.grow (g.trans g')).cell,(B4.grow (g.trans g')).cell,r'.bT 2 rfl,r'.bT 26 rfl⟩
 have HM:Hid (∀ E,aF A D.tick E->zk 196 #[R A.V 0,I F,zu ak,zu G] E (iQ A D.tick E (some (.unlink F ak G)))):=fun E r=>uR r F ak G
 have HG:=zG A.L w;clear hR aN B0 B1 B2 B3 B4;have jU:D.aH (.dC F ak G b)=({D.tick with sw:=some (.unlink F ak G)},false):=by simp only[St.aH,St.tick,hg];rfl
 rw[jU];rw[hg] at Ud;clear hv hw hg hsl;generalize (D.word (af G 1):Int)=hd at*;generalize ((af G 1:Nat):Int)=ix at*;have V5:Hid (∀ E w9,aF A D.tick E->Below E.heap.size E w9->aF A D.tick w9∧Grow A.L E A.L w9):=fun E w9 r h=>⟨r.below h,Grow.below h⟩
 go_enter Tryz.func198,Tryz.ntmps198;go_wp2_with fail
 go_region_held3 (fun E=>zV E b0 0 b∧zS E b1 0 A.V 0∧zV E b2 0 G∧zT E b3 0 F∧zV E b4 0 ak∧zS E A.V 2 A.ba 0∧zV E A.V 26 (D.low:Int))
  (first|exact⟨c0,c1,c2,c3,c4,e2,e3⟩|assumption|go_keep|exact HKK.out _ (by assumption) (by assumption))
  (first|(go_at_call 85;refine (HS.out _).mono ?_;rintro e w9 ⟨rfl,rfl⟩)|(go_at_call 42;refine (HL.out _ nM.out).mono ?_;rintro e H ⟨rfl,q1,q2⟩;have q4:=HG.out.trans q2;clear q2)|(go_at_call 199;refine (Ud.out _).mono ?_;rintro e w5 ⟨rfl,Z⟩;obtain⟨q5,q6⟩:=V5.out _ _ (by assumption) Z;have q7:=(‹Grow A.L w A.L _›).trans q6;clear q6 Z))
 obtain⟨d0,d1,d2,d3,d4,d9,SA⟩:=HKK.out _ q5 q7;have tZ:=U q5.drew;have AX:=U (q7.trans (Grow.drew _ _));go_wp2_with fail
 go_region_held3 (fun E=>zV E b0 0 b∧zS E b1 0 A.V 0∧zV E b2 0 G∧zT E b3 0 F∧zV E b4 0 ak∧zS E A.V 2 A.ba 0∧zV E A.V 26 (D.low:Int))
  (first|exact⟨d0,d1,d2,d3,d4,d9,SA⟩|assumption|go_keep|exact HKK.out _ (by assumption) (by assumption)|exact uS.out _ _ (by assumption) (by assumption))
  (first|(go_at_call 196;refine (HM.out _ tZ.out).mono ?_;rintro e w2 ⟨v,rfl,p1,p2,p3⟩;obtain⟨fv,fb,fc,e3⟩:=jA.form p3;subst e3;obtain⟨vo,y25⟩:∃ vo,w2.cell? (J A.V 25)=some vo:=⟨_,p1.bT 25 (v:=A.sv D.tick.sw) rfl⟩;have z25:=p1.iE 25;have q5:=AX.out.trans p2;have HP:=U p3;clear p2 p3))
 go_wp2_with fail;go_ret;obtain⟨A',a1,a2,a3,a4,a5⟩:=p1.fB _ _ HP.out;exact⟨rfl,A',a1,a3,q5.trans a4,a5,fun hc=>hc.keep a2 rfl (q5.trans a4)⟩
theorem DU (hR:aF A D w) (F ak G b:Nat) (hv:VL D G) (hw:D.word (af G 1)<18446744073709551616) (hg:dC (D.word (af G 1)) D.low=false) (aN:D.count<4000000000000000000) (b0:Nat) (b1:Nat) (b2:Nat) (b3:Nat) (b4:Nat) (B0:aP A.L w b0 (zu b)) (B1:aP A.L w b1 (R A.V 0)) (B2:aP A.L w b2 (zu G)) (B3:aP A.L w b3 (I F)) (B4:aP A.L w b4 (zu ak)):
 zk 198 #[R b0 0,R b1 0,R b2 0,R b3 0,R b4 0] w (sN A D w (D.aH (.dC F ak G b))):=by
 have c0:=B0.cell;have c1:=B1.cell;have c2:=B2.cell;have c3:=B3.cell;have c4:=B4.cell;have e2:=hR.z2;have e3:w.cell? (J A.V 26)=zv (D.low:Int):=hR.bT 26 rfl;have hsl:=hR.sl;have HS:=U (eD G 1 1 rfl hv.lo (by have:=hv.hi;omega) hv.u (by omega));have Ud:=U (C8 b (D.word (af G 1)) D.low hw);have HL:Hid (∀ E,aF A D E->zk 42 #[R A.ba 0,I (((af G 1:Nat):Int))] E (uL A E D.tick (zu (D.word (af G 1):Int)))):=fun E r=>iP r (af G 1) (((af G 1:Nat):Int)) rfl (dD r hv.lo hv.hi (by omega)) aN
 have nM:Hid (aF A D w.drew):=hR.drew;have HKK:Hid (∀ E,aF A D.tick E->Grow A.L w A.L E->zV E b0 0 b∧zS E b1 0 A.V 0∧zV E b2 0 G∧zT E b3 0 F∧zV E b4 0 ak∧zS E A.V 2 A.ba 0∧zV E A.V 26 (D.low:Int)):=fun E r g=>⟨(B0.grow g).cell,(B1.grow g).cell,(B2.grow g).cell,(B3.grow g).cell,(B4.grow g).cell,r.bT 2 rfl,r.bT 26 rfl⟩
 have uS:Hid (∀ E x,aF A D.tick E->Grow A.L w A.L E->zV (E.setCell (J A.V 25) x) b0 0 b∧zS (E.setCell (J A.V 25) x) b1 0 A.V 0∧zV (E.setCell (J A.V 25) x) b2 0 G∧zT (E.setCell (J A.V 25) x) b3 0 F∧zV (E.setCell (J A.V 25) x) b4 0 ak∧zS (E.setCell (J A.V 25) x) A.V 2 A.ba 0∧zV (E.setCell (J A.V 25) x) A.V 26 (D.low:Int)):=fun E x r g=>let ⟨r',g'⟩:=r.fV x .now;⟨(B0.grow (g.trans g')).cell,(B1.grow (g.trans g')).cell,(B2.grow (g.trans g')).cell,(B3.grow (g.trans g')).cell,(B4.grow (g.trans g')).cell,r'.bT 2 rfl,r'.bT 26 rfl⟩
 have HM:Hid (∀ E,aF A D.tick E->zk 197 #[R A.V 0,I F,zu G] E (iQ A D.tick E (some (.on F G)))):=fun E r=>G9 r F G
 have HG:=zG A.L w;clear hR aN B0 B1 B2 B3 B4;have jU:D.aH (.dC F ak G b)=({D.tick with sw:=some (.on F G)},false):=by simp only[St.aH,St.tick,hg];rfl
 rw[jU];rw[hg] at Ud;clear hv hw hg hsl;generalize (D.word (af G 1):Int)=hd at*;generalize ((af G 1:Nat):Int)=ix at*;have V5:Hid (∀ E w9,aF A D.tick E->Below E.heap.size E w9->aF A D.tick w9∧Grow A.L E A.L w9):=fun E w9 r h=>⟨r.below h,Grow.below h⟩
 go_enter Tryz.func198,Tryz.ntmps198;go_wp2_with fail
 go_region_held3 (fun E=>zV E b0 0 b∧zS E b1 0 A.V 0∧zV E b2 0 G∧zT E b3 0 F∧zV E b4 0 ak∧zS E A.V 2 A.ba 0∧zV E A.V 26 (D.low:Int))
  (first|exact⟨c0,c1,c2,c3,c4,e2,e3⟩|assumption|go_keep|exact HKK.out _ (by assumption) (by assumption))
  (first|(go_at_call 85;refine (HS.out _).mono ?_;rintro e w9 ⟨rfl,rfl⟩)|(go_at_call 42;refine (HL.out _ nM.out).mono ?_;rintro e H ⟨rfl,q1,q2⟩;have q4:=HG.out.trans q2;clear q2)|(go_at_call 199;refine (Ud.out _).mono ?_;rintro e w5 ⟨rfl,Z⟩;obtain⟨q5,q6⟩:=V5.out _ _ (by assumption) Z;have q7:=(‹Grow A.L w A.L _›).trans q6;clear q6 Z))
 obtain⟨d0,d1,d2,d3,d4,d9,SA⟩:=HKK.out _ q5 q7;have tZ:=U q5.drew;have AX:=U (q7.trans (Grow.drew _ _));go_wp2_with fail
 go_region_held3 (fun E=>zV E b0 0 b∧zS E b1 0 A.V 0∧zV E b2 0 G∧zT E b3 0 F∧zV E b4 0 ak∧zS E A.V 2 A.ba 0∧zV E A.V 26 (D.low:Int))
  (first|exact⟨d0,d1,d2,d3,d4,d9,SA⟩|assumption|go_keep|exact HKK.out _ (by assumption) (by assumption)|exact uS.out _ _ (by assumption) (by assumption))
  (first|(go_at_call 197;refine (HM.out _ tZ.out).mono ?_;rintro e w2 ⟨v,rfl,p1,p2,p3⟩;obtain⟨fv,fb,fc,e3⟩:=jA.form p3;subst e3;obtain⟨vo,y25⟩:∃ vo,w2.cell? (J A.V 25)=some vo:=⟨_,p1.bT 25 (v:=A.sv D.tick.sw) rfl⟩;have z25:=p1.iE 25;have q5:=AX.out.trans p2;have HP:=U p3;clear p2 p3))
 go_wp2_with fail;go_ret;obtain⟨A',a1,a2,a3,a4,a5⟩:=p1.fB _ _ HP.out;exact⟨rfl,A',a1,a3,q5.trans a4,a5,fun hc=>hc.keep a2 rfl (q5.trans a4)⟩
theorem PV (x:Nat) (hx:x<18446744073709551616):(rd x).2<9223372036854775808∧IntKind.i64.wrap ((rd x).2:Int)=((rd x).2:Int):=by
 have h:(rd x).2<9223372036854775808:=by
  unfold rd
  repeat' split
  all_goals (first|(simp[tm] at *;omega)|(simp;done)|(simp[nW] at *;omega))
 exact⟨h,by rw[je];omega⟩
theorem FU (hR:aF A D w) (F ak G:Nat) (hv:VL D G) (hw:D.word (af G 0)<18446744073709551616) (h2:((rd (D.word (af G 0))).1=2)=True) (aN:D.count<4000000000000000000) (b0:Nat) (b1:Nat) (b2:Nat) (b3:Nat) (B0:aP A.L w b0 (R A.V 0)) (B1:aP A.L w b1 (zu G)) (B2:aP A.L w b2 (I F)) (B3:aP A.L w b3 (zu ak)):
 zk 179 #[R b0 0,R b1 0,R b2 0,R b3 0] w (sN A D w (D.aH (.visit F ak G))):=by
 have c0:=B0.cell;have c1:=B1.cell;have c2:=B2.cell;have c3:=B3.cell;have e2:=hR.z2;have hsl:=hR.sl;have HS:=U (eD G 0 0 rfl hv.lo (by have:=hv.hi;omega) hv.u (by omega));have zl:=U (ru (D.word (af G 0)) hw);have hrn:=PV (D.word (af G 0)) hw;have HL:Hid (∀ E,aF A D E->zk 42 #[R A.ba 0,I (((af G 0:Nat):Int))] E (uL A E D.tick (zu (D.word (af G 0):Int)))):=fun E r=>iP r (af G 0) (((af G 0:Nat):Int)) rfl (dD r hv.lo hv.hi (by omega)) aN
 have nM:Hid (aF A D w.drew):=hR.drew;have HKK:Hid (∀ E,aF A D.tick E->Grow A.L w A.L E->zS E b0 0 A.V 0∧zV E b1 0 G∧zT E b2 0 F∧zV E b3 0 ak∧zS E A.V 2 A.ba 0):=fun E r g=>⟨(B0.grow g).cell,(B1.grow g).cell,(B2.grow g).cell,(B3.grow g).cell,r.bT 2 rfl⟩
 have uS:Hid (∀ E x,aF A D.tick E->Grow A.L w A.L E->zS (E.setCell (J A.V 25) x) b0 0 A.V 0∧zV (E.setCell (J A.V 25) x) b1 0 G∧zT (E.setCell (J A.V 25) x) b2 0 F∧zV (E.setCell (J A.V 25) x) b3 0 ak∧zS (E.setCell (J A.V 25) x) A.V 2 A.ba 0):=fun E x r g=>let ⟨r',g'⟩:=r.fV x .now;⟨(B0.grow (g.trans g')).cell,(B1.grow (g.trans g')).cell,(B2.grow (g.trans g')).cell,(B3.grow (g.trans g')).cell,r'.bT 2 rfl⟩
 have HM:Hid (∀ E,aF A D.tick E->zk 180 #[R A.V 0,I F,zu ak,zu G,I ((rd (D.word (af G 0))).2:Int)] E (iQ A D.tick E (some (.maker F ak G (rd (D.word (af G 0))).2)))):=fun E r=>Fe r F ak G (rd (D.word (af G 0))).2
 have HG:=zG A.L w;clear hR aN B0 B1 B2 B3;have jU:D.aH (.visit F ak G)=({D.tick with sw:=some (.maker F ak G (rd (D.word (af G 0))).2)},false):=by simp only[St.aH,h2];rfl
 rw[jU];have f1:(((rd (D.word (af G 0))).1:Int)=2)=True:=by have:=h2;simp at this ⊢;omega
 have f2:(((rd (D.word (af G 0))).1:Int)==2)=true:=by have:=h2;simp at this ⊢;omega
 have n1:=hrn.2;clear hv hsl hw h2 hrn;generalize hkk:S.maker F ak G (rd (D.word (af G 0))).2=kk at*;clear hkk;generalize ((rd (D.word (af G 0))).1:Int)=zk at*;generalize ((rd (D.word (af G 0))).2:Int)=zn at*;generalize (D.word (af G 0):Int)=hd at*;generalize ((af G 0:Nat):Int)=ix at*;go_enter Tryz.func179,Tryz.ntmps179;go_wp2_with fail
 go_region_held3 (fun E=>zS E b0 0 A.V 0∧zV E b1 0 G∧zT E b2 0 F∧zV E b3 0 ak∧zS E A.V 2 A.ba 0)
  (first|exact⟨c0,c1,c2,c3,e2⟩|assumption|go_keep|exact HKK.out _ (by assumption) (by assumption))
  (first|(go_at_call 85;refine (HS.out _).mono ?_;rintro e w9 ⟨rfl,rfl⟩)|(go_at_call 42;refine (HL.out _ nM.out).mono ?_;rintro e H ⟨rfl,q1,q2⟩;have q4:=HG.out.trans q2))
 have HQ:=U (zA q1 q4);clear q1 q2 q4;go_wp2_with (go_at_call 108;refine (zl.out _).mono ?_;rintro e w3 ⟨rfl,Z⟩;have q5:=(HQ.out.1.below Z).alloc (Obj.cells #[I zk,zu zn] 217);have q6:=(HQ.out.2.trans (Grow.below Z)).trans (Grow.alloc _ _ (Obj.cells #[I zk,zu zn] 217));have fx:=fA (HQ.out.1.below Z).mem.fresh (Obj.cells #[I zk,zu zn] 217) rfl;have Ff:=U fx;clear fx Z);generalize hw4:w3.alloc (Obj.cells #[I zk,zu zn] 217)=w4 at*;obtain⟨d0,d1,d2,d3,d9⟩:=HKK.out _ q5 q6;have d8:w4.cell? (J w3.heap.size 1)=zv zn:=Ff.out.cell 1 rfl;have tZ:=U q5.drew;have AX:=U (q6.trans (Grow.drew _ _));have V6:Hid (∀ E,aF A D.tick E->Grow A.L w A.L E->Grow A.L w4 A.L E->zS E b0 0 A.V 0∧zV E b1 0 G∧zT E b2 0 F∧zV E b3 0 ak∧zS E A.V 2 A.ba 0∧zV E w3.heap.size 1 zn):=fun E r g g4=>by
  obtain⟨x0,x1,x2,x3,x9⟩:=HKK.out _ r g;exact⟨x0,x1,x2,x3,x9,(Ff.out.grow g4).cell 1 rfl⟩
 have yB:Hid (∀ E x,aF A D.tick E->Grow A.L w A.L E->Grow A.L w4 A.L E->zS (E.setCell (J A.V 25) x) b0 0 A.V 0∧zV (E.setCell (J A.V 25) x) b1 0 G∧zT (E.setCell (J A.V 25) x) b2 0 F∧zV (E.setCell (J A.V 25) x) b3 0 ak∧zS (E.setCell (J A.V 25) x) A.V 2 A.ba 0∧zV (E.setCell (J A.V 25) x) w3.heap.size 1 zn):=fun E x r g g4=>by
  obtain⟨x0,x1,x2,x3,x9⟩:=uS.out _ x r g;exact⟨x0,x1,x2,x3,x9,(Ff.out.grow (g4.trans (r.fV x .now).2)).cell 1 rfl⟩
 go_region_held3 (fun E=>zS E b0 0 A.V 0∧zV E b1 0 G∧zT E b2 0 F∧zV E b3 0 ak∧zS E A.V 2 A.ba 0∧zV E w3.heap.size 1 zn)
  (first|exact⟨d0,d1,d2,d3,d9,d8⟩|assumption|go_keep|exact V6.out _ (by assumption) (by assumption) (by assumption)|exact yB.out _ _ (by assumption) (by assumption) (by assumption))
  (first|(go_at_call 180;refine (HM.out _ tZ.out).mono ?_;rintro e w2 ⟨v,rfl,p1,p2,p3⟩;obtain⟨fv,fb,fc,e3⟩:=jA.form p3;subst e3;obtain⟨vo,y25⟩:∃ vo,w2.cell? (J A.V 25)=some vo:=⟨_,p1.bT 25 (v:=A.sv D.tick.sw) rfl⟩;have z25:=p1.iE 25;have q7:=AX.out.trans p2;have q8:=(Grow.drew A.L w4).trans p2;have HP:=U p3;clear p2 p3))
 go_wp2_with fail;go_ret;obtain⟨A',a1,a2,a3,a4,a5⟩:=p1.fB _ _ HP.out;exact⟨rfl,A',a1,a3,q7.trans a4,a5,fun hc=>hc.keep a2 rfl (q7.trans a4)⟩
theorem FV (hR:aF A D w) (F ak G:Nat) (hv:VL D G) (hw:D.word (af G 0)<18446744073709551616) (h2:((rd (D.word (af G 0))).1=2)=False) (aN:D.count<4000000000000000000) (b0:Nat) (b1:Nat) (b2:Nat) (b3:Nat) (B0:aP A.L w b0 (R A.V 0)) (B1:aP A.L w b1 (zu G)) (B2:aP A.L w b2 (I F)) (B3:aP A.L w b3 (zu ak)):
 zk 179 #[R b0 0,R b1 0,R b2 0,R b3 0] w (sN A D w (D.aH (.visit F ak G))):=by
 have c0:=B0.cell;have c1:=B1.cell;have c2:=B2.cell;have c3:=B3.cell;have e2:=hR.z2;have hsl:=hR.sl;have HS:=U (eD G 0 0 rfl hv.lo (by have:=hv.hi;omega) hv.u (by omega));have zl:=U (ru (D.word (af G 0)) hw);have hrn:=PV (D.word (af G 0)) hw;have HL:Hid (∀ E,aF A D E->zk 42 #[R A.ba 0,I (((af G 0:Nat):Int))] E (uL A E D.tick (zu (D.word (af G 0):Int)))):=fun E r=>iP r (af G 0) (((af G 0:Nat):Int)) rfl (dD r hv.lo hv.hi (by omega)) aN
 have nM:Hid (aF A D w.drew):=hR.drew;have HKK:Hid (∀ E,aF A D.tick E->Grow A.L w A.L E->zS E b0 0 A.V 0∧zV E b1 0 G∧zT E b2 0 F∧zV E b3 0 ak∧zS E A.V 2 A.ba 0):=fun E r g=>⟨(B0.grow g).cell,(B1.grow g).cell,(B2.grow g).cell,(B3.grow g).cell,r.bT 2 rfl⟩
 have uS:Hid (∀ E x,aF A D.tick E->Grow A.L w A.L E->zS (E.setCell (J A.V 25) x) b0 0 A.V 0∧zV (E.setCell (J A.V 25) x) b1 0 G∧zT (E.setCell (J A.V 25) x) b2 0 F∧zV (E.setCell (J A.V 25) x) b3 0 ak∧zS (E.setCell (J A.V 25) x) A.V 2 A.ba 0):=fun E x r g=>let ⟨r',g'⟩:=r.fV x .now;⟨(B0.grow (g.trans g')).cell,(B1.grow (g.trans g')).cell,(B2.grow (g.trans g')).cell,(B3.grow (g.trans g')).cell,r'.bT 2 rfl⟩
 have HM:Hid (∀ E,aF A D.tick E->zk 181 #[R A.V 0,I F,zu ak,zu G,zu (D.word (af G 0):Int)] E (iQ A D.tick E (some (.dC F ak G (D.word (af G 0)))))):=fun E r=>AV r F ak G (D.word (af G 0))
 have HG:=zG A.L w;clear hR aN B0 B1 B2 B3;have jU:D.aH (.visit F ak G)=({D.tick with sw:=some (.dC F ak G (D.word (af G 0)))},false):=by simp only[St.aH,h2];rfl
 rw[jU];have f1:(((rd (D.word (af G 0))).1:Int)=2)=False:=by have:=h2;simp at this ⊢;omega
 have f2:(((rd (D.word (af G 0))).1:Int)==2)=false:=by have:=h2;simp at this ⊢;omega
 have n1:=hrn.2;clear hv hsl hw h2 hrn;generalize hkk:S.dC F ak G (D.word (af G 0))=kk at*;clear hkk;generalize ((rd (D.word (af G 0))).1:Int)=zk at*;generalize ((rd (D.word (af G 0))).2:Int)=zn at*;generalize (D.word (af G 0):Int)=hd at*;generalize ((af G 0:Nat):Int)=ix at*;go_enter Tryz.func179,Tryz.ntmps179;go_wp2_with fail
 go_region_held3 (fun E=>zS E b0 0 A.V 0∧zV E b1 0 G∧zT E b2 0 F∧zV E b3 0 ak∧zS E A.V 2 A.ba 0)
  (first|exact⟨c0,c1,c2,c3,e2⟩|assumption|go_keep|exact HKK.out _ (by assumption) (by assumption))
  (first|(go_at_call 85;refine (HS.out _).mono ?_;rintro e w9 ⟨rfl,rfl⟩)|(go_at_call 42;refine (HL.out _ nM.out).mono ?_;rintro e H ⟨rfl,q1,q2⟩;have q4:=HG.out.trans q2))
 have HQ:=U (zA q1 q4);clear q1 q2 q4;go_wp2_with (go_at_call 108;refine (zl.out _).mono ?_;rintro e w3 ⟨rfl,Z⟩;have q5:=(HQ.out.1.below Z).alloc (Obj.cells #[I zk,zu zn] 217);have q6:=(HQ.out.2.trans (Grow.below Z)).trans (Grow.alloc _ _ (Obj.cells #[I zk,zu zn] 217));have fx:=fA (HQ.out.1.below Z).mem.fresh (Obj.cells #[I zk,zu zn] 217) rfl;have Ff:=U fx;clear fx Z);generalize hw4:w3.alloc (Obj.cells #[I zk,zu zn] 217)=w4 at*;obtain⟨d0,d1,d2,d3,d9⟩:=HKK.out _ q5 q6;have d8:w4.cell? (J w3.heap.size 1)=zv zn:=Ff.out.cell 1 rfl;have tZ:=U q5.drew;have AX:=U (q6.trans (Grow.drew _ _));have V6:Hid (∀ E,aF A D.tick E->Grow A.L w A.L E->Grow A.L w4 A.L E->zS E b0 0 A.V 0∧zV E b1 0 G∧zT E b2 0 F∧zV E b3 0 ak∧zS E A.V 2 A.ba 0∧zV E w3.heap.size 1 zn):=fun E r g g4=>by
  obtain⟨x0,x1,x2,x3,x9⟩:=HKK.out _ r g;exact⟨x0,x1,x2,x3,x9,(Ff.out.grow g4).cell 1 rfl⟩
 have yB:Hid (∀ E x,aF A D.tick E->Grow A.L w A.L E->Grow A.L w4 A.L E->zS (E.setCell (J A.V 25) x) b0 0 A.V 0∧zV (E.setCell (J A.V 25) x) b1 0 G∧zT (E.setCell (J A.V 25) x) b2 0 F∧zV (E.setCell (J A.V 25) x) b3 0 ak∧zS (E.setCell (J A.V 25) x) A.V 2 A.ba 0∧zV (E.setCell (J A.V 25) x) w3.heap.size 1 zn):=fun E x r g g4=>by
  obtain⟨x0,x1,x2,x3,x9⟩:=uS.out _ x r g;exact⟨x0,x1,x2,x3,x9,(Ff.out.grow (g4.trans (r.fV x .now).2)).cell 1 rfl⟩
 go_region_held3 (fun E=>zS E b0 0 A.V 0∧zV E b1 0 G∧zT E b2 0 F∧zV E b3 0 ak∧zS E A.V 2 A.ba 0∧zV E w3.heap.size 1 zn)
  (first|exact⟨d0,d1,d2,d3,d9,d8⟩|assumption|go_keep|exact V6.out _ (by assumption) (by assumption) (by assumption)|exact yB.out _ _ (by assumption) (by assumption) (by assumption))
  (first|(go_at_call 181;refine (HM.out _ tZ.out).mono ?_;rintro e w2 ⟨v,rfl,p1,p2,p3⟩;obtain⟨fv,fb,fc,e3⟩:=jA.form p3;subst e3;obtain⟨vo,y25⟩:∃ vo,w2.cell? (J A.V 25)=some vo:=⟨_,p1.bT 25 (v:=A.sv D.tick.sw) rfl⟩;have z25:=p1.iE 25;have q7:=AX.out.trans p2;have q8:=(Grow.drew A.L w4).trans p2;have HP:=U p3;clear p2 p3))
 go_wp2_with fail;go_ret;obtain⟨A',a1,a2,a3,a4,a5⟩:=p1.fB _ _ HP.out;exact⟨rfl,A',a1,a3,q7.trans a4,a5,fun hc=>hc.keep a2 rfl (q7.trans a4)⟩
def Ue (D:St):S->Bool
 |.now=>decide (D.word 0<18446744073709551616)
 |.live s=>decide (s<8)
 |.head F=>decide (F<=63)
 |.visit _ _ G=>vl D G&&small D (af G 0)
 |.maker _ _ _ id=>decide (id<=2000)&&small D (D.place id)
 |.dC _ _ G _=>vl D G&&small D (af G 1)
 |.on F G=>decide (F<=63)&&vl D G
 |.unlink _ _ G=>vl D G
 |.cut F ak G _=>decide (F<=63)&&((decide (ak=0)||vl D ak)&&decide (D.cut.length<1000000))
theorem jA.enter {e:Nat} {L:eH} {w:World} {v:Value}:∀ {k:S},jA e L w v (some k)->∃ f b c,v=.func (.func f) b c∧∀ args w,(callFunc f args).run Tryz.prog w=.ok (.enter f args) w
 |.now,h=>⟨_,_,_,h,fun _ _=>by kernel_rfl⟩
 |.live _,h=>let ⟨_,_,e,_⟩:=h;⟨_,_,_,e,fun _ _=>by kernel_rfl⟩
 |.head _,h=>let ⟨_,_,e,_⟩:=h;⟨_,_,_,e,fun _ _=>by kernel_rfl⟩
 |.visit _ _ _,h=>let ⟨_,_,_,_,e,_⟩:=h;⟨_,_,_,e,fun _ _=>by kernel_rfl⟩
 |.maker _ _ _ _,h=>let ⟨_,_,_,_,_,e,_⟩:=h;⟨_,_,_,e,fun _ _=>by kernel_rfl⟩
 |.dC _ _ _ _,h=>let ⟨_,_,_,_,_,e,_⟩:=h;⟨_,_,_,e,fun _ _=>by kernel_rfl⟩
 |.on _ _,h=>let ⟨_,_,_,e,_⟩:=h;⟨_,_,_,e,fun _ _=>by kernel_rfl⟩
 |.unlink _ _ _,h=>let ⟨_,_,_,_,e,_⟩:=h;⟨_,_,_,e,fun _ _=>by kernel_rfl⟩
 |.cut _ _ _ _,h=>let ⟨_,_,_,_,_,e,_⟩:=h;⟨_,_,_,e,fun _ _=>by kernel_rfl⟩
theorem Uf (hR:aF A D w) (hck:jd A D.cut) (aN:D.count<3000000000000000000):∀ (k:S) (_:Ue D k=true) (f:FuncId) (b c:Array Value),jA A.V A.L w (.func (.func f) b c) (some k)->zk f (b++c) w (sN A D w (D.aH k))
 |.now,h,f,b,c,hs=>by
  obtain⟨rfl,rfl,rfl⟩:=bK hs;exact LJ hR (by omega) (of_decide_eq_true h)
 |.live s,h,f,b,c,hs=>by
  obtain⟨b0,b1,e,k0,k1⟩:=hs;obtain⟨rfl,rfl,rfl⟩:=bK e;exact Rh hR s (of_decide_eq_true h) (by omega) b0 b1 k0 k1
 |.head F,h,f,b,c,hs=>by
  obtain⟨b0,b1,e,k0,k1⟩:=hs;obtain⟨rfl,rfl,rfl⟩:=bK e;exact QE hR F (of_decide_eq_true h) (by omega) b0 b1 k0 k1
 |.visit F ak G,h,f,b,c,hs=>by
  obtain⟨b0,b1,b2,b3,e,k0,k1,k2,k3⟩:=hs;obtain⟨rfl,rfl,rfl⟩:=bK e;obtain⟨h1,h2⟩:=pg h
  by_cases hx:(rd (D.word (af G 0))).1=2
  . exact FU hR F ak G (fT h1) (fe h2) (by simp[hx]) (by omega) b0 b1 b2 b3 k0 k1 k2 k3
  . exact FV hR F ak G (fT h1) (fe h2) (by simp[hx]) (by omega) b0 b1 b2 b3 k0 k1 k2 k3
 |.maker F ak G id,h,f,b,c,hs=>by
  obtain⟨b0,b1,b2,b3,b4,e,k0,k1,k2,k3,k4⟩:=hs;obtain⟨rfl,rfl,rfl⟩:=bK e;obtain⟨h1,h2⟩:=pg h;have hid:=of_decide_eq_true h1
  by_cases hx:bA (D.word (D.place id))=4
  . exact FQ hR F ak G id (by omega) (kS hR hid) (fe h2) (by simp[hx]) (by omega) b0 b1 b2 b3 b4 k0 k1 k2 k3 k4
  . exact FT hR F ak G id (by omega) (kS hR hid) (fe h2) (by simp[hx]) (by omega) b0 b1 b2 b3 b4 k0 k1 k2 k3 k4
 |.dC F ak G bb,h,f,b,c,hs=>by
  obtain⟨b0,b1,b2,b3,b4,e,k0,k1,k2,k3,k4⟩:=hs;obtain⟨rfl,rfl,rfl⟩:=bK e;obtain⟨h1,h2⟩:=pg h
  cases hx:dC (D.word (af G 1)) D.low with
  |true=>exact DT hR F ak G bb (fT h1) (fe h2) hx (by omega) b0 b1 b2 b3 b4 k0 k1 k2 k3 k4
  |false=>exact DU hR F ak G bb (fT h1) (fe h2) hx (by omega) b0 b1 b2 b3 b4 k0 k1 k2 k3 k4
 |.on F G,h,f,b,c,hs=>by
  obtain⟨b0,b1,b2,e,k0,k1,k2⟩:=hs;obtain⟨rfl,rfl,rfl⟩:=bK e;obtain⟨h1,h2⟩:=pg h;exact Vg hR F G (of_decide_eq_true h1) (fT h2) (by omega) b0 b1 b2 k0 k1 k2
 |.unlink F ak G,h,f,b,c,hs=>by
  obtain⟨b0,b1,b2,b3,e,k0,k1,k2,k3⟩:=hs;obtain⟨rfl,rfl,rfl⟩:=bK e;exact Kv hR F ak G (fT h) (by omega) b0 b1 b2 b3 k0 k1 k2 k3
 |.cut F ak G nx,h,f,b,c,hs=>by
  obtain⟨b0,b1,b2,b3,b4,e,k0,k1,k2,k3,k4⟩:=hs;obtain⟨rfl,rfl,rfl⟩:=bK e;obtain⟨h1,h⟩:=pg h;obtain⟨h2,h3⟩:=pg h;have hln:=of_decide_eq_true h3;rw[pR,zd] at h2
  by_cases ha:ak=0
  . by_cases hw:D.word (9+F)=G
    . exact DN hR F ak G nx (of_decide_eq_true h1) (.inl ⟨ha,hw⟩) hck hln (by omega) b0 b1 b2 b3 b4 k0 k1 k2 k3 k4
    . exact FL hR F ak G nx (of_decide_eq_true h1) ha hw (by omega) b0 b1 b2 b3 b4 k0 k1 k2 k3 k4
  . exact DN hR F ak G nx (of_decide_eq_true h1) (.inr (fT (h2.resolve_left ha))) hck hln (by omega) b0 b1 b2 b3 b4 k0 k1 k2 k3 k4
theorem nk (D:St) (k:S):(D.aH k).1.calls=D.calls∧(D.aH k).1.count=D.count+1∧(D.aH k).1.aA=D.aA:=by
 cases k<;>simp only[St.aH]<;>(repeat' split)<;>exact⟨rfl,rfl,rfl⟩
theorem Live.LM {A A':az} {D bF:St} {w E:World} (hL:Live A D w) (r:aF A' bF E) (g:Grow A.L w A'.L E) (s:kR A A') (hc:bF.calls=D.calls) (sx:uM A' bF E):Live A' bF E:=by
 obtain⟨⟨L,v,c,f,m,hc',gc,cs,rfl⟩,hm⟩:=s;have ek:∀ s,kp {A with L:=L,eP:=v,jc:=c,fH:=f,mp:=m,hcut:=hc',gu:=gc,eG:=cs} bF s=kp A D s:=fun s=>by unfold kp St.c;rw[hc]
 refine⟨r,hm.trans hL.mp,hL.mt,fun s h c hcs=>?_,fun s h hcs=>hL.idle s h (by rw[<-hc];exact hcs),sx⟩;obtain⟨e1,k,e2,e3⟩:=hL.call s h c (by rw[<-hc];exact hcs);exact⟨e1,k,e2,by rw[ek];exact e3.grow g⟩
def xc (A:az) (w:World) (bF:St) (x:Bool):Ending->World->Prop:=fun e E=>e=.returned (.bool x)∧∃ A',kR A A'∧Live A' bF E∧Grow A.L w A'.L E
def xe (D:St):Prop:=∀ A w,Live A D w->zk 73 #[R A.V 0] w fun e E=>e=.returned (.bool false)∧Below w.heap.size w E
theorem V7 (f:FuncId) (b c:Array Value) (w:World):(binOp .eql 54 (.func (.func f) b c) .nilFunc).run Tryz.prog w=.ok (.bool false) w:=by rfl
theorem V8 (w:World):(binOp .eql 54 .nilFunc .nilFunc).run Tryz.prog w=.ok (.bool true) w:=by rfl
theorem FW (hL:Live A D w) (k:S) (hsw:D.sw=some k) (hgn:xe D) (aN:D.count<3000000000000000000) (hlk:D.aA<1000000000000000000) (hok:Ue D k=true):
 zk 35 #[R A.V 0] w (xc A w ({(D.aH k).1 with aA:=D.aA+1}) (D.aH k).2):=by
 obtain⟨r2,g2,f0,f1⟩:=jJ hL.rep #[R A.V 0] 32 #[I (D.count:Int)] 3;have hcn:=U ((jf (hL.rep.alloc (.cells #[R A.V 0] 32)) (by omega)).mono (fun e w9 h=>(⟨h.1,h.2.symm⟩:e=_∧w9=w.alloc (.cells #[R A.V 0] 32))));have e2:(w.alloc (.cells #[R A.V 0] 32)).cell? (J A.V 2)=zs A.ba 0:=(hL.rep.alloc _).bT 2 rfl;have y0:=f0.cell 0 (v:=R A.V 0) rfl;have hS:=hL.sx.sw;have hC:rD A D w:=hL.sx.cu;have HG:=U (hgn A _ (hL.world r2 g2));rw[hsw] at hS;obtain⟨fv,fb,fc,hv,he⟩:=hS.enter;obtain⟨hk1,hk2,hk3⟩:=nk D k
 have H3 : Hid (∀ w3, Below ((w.alloc (.cells #[R A.V 0] 32)).alloc (.cells #[I (D.count : Int)] 3)).heap.size ((w.alloc (.cells #[R A.V 0] 32)).alloc (.cells #[I (D.count : Int)] 3)) w3 ->
     zS w3 w.heap.size 0 A.V 0∧w3.cell? (J A.V 25)=some (.func (.func fv) fb fc)∧zk fv (fb++fc) w3 (fun e w4=>e=.returned (.bool (D.aH k).2)∧∃ A',kR A A'∧aF A' (D.aH k).1 w4∧Grow A.L w A'.L w4∧jA A'.V A'.L w4 (A'.sv (D.aH k).1.sw) (D.aH k).1.sw∧rD A' (D.aH k).1 w4∧aP A'.L w4 w.heap.size (R A'.V 0)∧aP A'.L w4 (w.heap.size+1) (I (D.count:Int)))):=by
  intro w3 Z;have gb:=Grow.below (L:=A.L) Z;have r3:=r2.below Z;have Nj:=r3.bT 25 (v:=A.sv D.sw) rfl;rw[hsw,hv] at Nj;refine⟨(f0.grow gb).cell 0 rfl,Nj,?_⟩;have XG:=hS.grow (g2.trans gb);rw[hv] at XG;refine (Uf r3 hC aN k hok fv fb fc XG).mono ?_;rintro e w4 ⟨rfl,A',s1,s2,s3,s4,s5⟩;have hbe:A'.V=A.V:=by obtain⟨⟨L,v,c,f,m,hc',gc,cs,rfl⟩,_⟩:=s1;rfl
  exact⟨rfl,A',s1,s2,(g2.trans gb).trans s3,s4,s5 (hC.keep rfl rfl (g2.trans gb)),by rw[hbe];exact ((f0.grow gb).grow s3).box,((f1.grow gb).grow s3).box⟩
 have zK:=U (zA hL (zA aN (zA hlk (zA hk1 (zA hk2 hk3)))));clear r2 g2 f0 f1 hL hS hC hgn aN hlk hok hv hsw hk1 hk2 hk3;generalize D.aH k=rr at*;have hne:=V7 fv fb fc
 go_enter_defers Tryz.func35,Tryz.ntmps35
 go_wp2_with (first|(go_at_call 71;refine hcn.out.mono ?_;rintro e H ⟨rfl,rfl⟩)|(go_at_call 73;refine HG.out.mono ?_;rintro e w3 ⟨rfl,Z⟩;obtain⟨x0,x25,hc⟩:=H3.out w3 Z;have HC:=U hc;clear hc Z));refine HC.out.mono ?_;rintro e w4 ⟨rfl,A',s1,s2,s3,s4,s5,B0,B1⟩;have HD:=U (o9 s2 D.count 1 zK.out.2.2.2.2.1 (by rw[zK.out.2.2.2.2.1];have:=zK.out.2.1;omega) (by rw[zK.out.2.2.2.2.2];exact zK.out.2.2.1) (by omega) _ _ B0 B1);have HS:=U (zA s1 (zA s2 (zA s3 (zA s4 s5))));clear s1 s2 s3 s4 s5 B0 B1 HC;go_wp2;refine leaves_cons (f:=72) (args:=#[R w.heap.size 0,.pointer (some ⟨w.heap.size+1,0,none⟩)]) (by simp) (by simp[go_sem]) ?_;refine HD.out.mono ?_;rintro e u w5 ⟨rfl,rfl,r5,g5⟩;simp[Leaves,settle,results,Tryz.results35];obtain⟨s1,s2,s3,s4,s5⟩:=HS.out;obtain⟨hL,_,_,hk1,hk2,hk3⟩:=zK.out;rw[hk3] at r5;exact⟨rfl,A',s1,hL.LM r5 (s3.trans g5) s1 hk1 ⟨s4.grow g5,s5⟩,s3.trans g5⟩
theorem FY (hL:Live A D w) (hsw:D.sw=none) (hgn:xe D) (aN:D.count<3000000000000000000) (hlk:D.aA<1000000000000000000) (hok:Ue D .now=true):
 zk 35 #[R A.V 0] w (xc A w ({(D.aH .now).1 with aA:=D.aA+1}) (D.aH .now).2):=by
 obtain⟨r2,g2,f0,f1⟩:=jJ hL.rep #[R A.V 0] 32 #[I (D.count:Int)] 3;have hcn:=U ((jf (hL.rep.alloc (.cells #[R A.V 0] 32)) (by omega)).mono (fun e w9 h=>(⟨h.1,h.2.symm⟩:e=_∧w9=w.alloc (.cells #[R A.V 0] 32))));have e2:(w.alloc (.cells #[R A.V 0] 32)).cell? (J A.V 2)=zs A.ba 0:=(hL.rep.alloc _).bT 2 rfl;have y0:=f0.cell 0 (v:=R A.V 0) rfl;have hC:rD A D w:=hL.sx.cu;have HG:=U (hgn A _ (hL.world r2 g2));have he:∀ args w,(callFunc 74 args).run Tryz.prog w=.ok (.enter 74 args) w:=fun _ _=>by kernel_rfl
 obtain⟨hk1,hk2,hk3⟩:=nk D .now
 have H3 : Hid (∀ w3, Below ((w.alloc (.cells #[R A.V 0] 32)).alloc (.cells #[I (D.count : Int)] 3)).heap.size ((w.alloc (.cells #[R A.V 0] 32)).alloc (.cells #[I (D.count : Int)] 3)) w3 ->
     zS w3 w.heap.size 0 A.V 0∧w3.cell? (J A.V 25)=some .nilFunc∧w3.frozen? (J A.V 25)=false∧(w3.setCell (J A.V 25) (.func (.func 74) #[R A.V 0] #[])).cell? (J w.heap.size 0)=zs A.V 0∧(w3.setCell (J A.V 25) (.func (.func 74) #[R A.V 0] #[])).cell? (J A.V 25)=some (.func (.func 74) #[R A.V 0] #[])∧zk 74 #[R A.V 0] (w3.setCell (J A.V 25) (.func (.func 74) #[R A.V 0] #[])) (fun e w4=>e=.returned (.bool (D.aH .now).2)∧∃ A',kR A A'∧aF A' (D.aH .now).1 w4∧Grow A.L w A'.L w4∧jA A'.V A'.L w4 (A'.sv (D.aH .now).1.sw) (D.aH .now).1.sw∧rD A' (D.aH .now).1 w4∧aP A'.L w4 w.heap.size (R A'.V 0)∧aP A'.L w4 (w.heap.size+1) (I (D.count:Int)))):=by
  intro w3 Z;have gb:=Grow.below (L:=A.L) Z;have r3:=r2.below Z;have Nj:=r3.bT 25 (v:=A.sv D.sw) rfl;rw[hsw] at Nj;have hv:A.sv (none:Option S)=.nilFunc:=rfl;rw[hv] at Nj;have z25:=r3.iE 25;obtain⟨r4,g4⟩:=r3.fV (.func (.func 74) #[R A.V 0] #[]) .now;refine⟨(f0.grow gb).cell 0 rfl,Nj,z25,((f0.grow gb).grow g4).cell 0 rfl,World.cell?_setCell_same _ _ _ Nj,?_⟩;refine (LJ r4 (by show D.count<_;omega) (of_decide_eq_true hok)).mono ?_;rintro e w4 ⟨rfl,A',s1,s2,s3,s4,s5⟩;have hs0:kR A {A with eP:=.func (.func 74) #[R A.V 0] #[]}:=⟨⟨_,_,_,_,_,_,_,_,rfl⟩,rfl⟩
  have hbe:A'.V=A.V:=by obtain⟨⟨L,v,c,f,m,hc',gc,cs,rfl⟩,_⟩:=s1;rfl
  have Y6:rD {A with eP:=.func (.func 74) #[R A.V 0] #[]} ({D with sw:=some .now}:St) (w3.setCell (J A.V 25) (.func (.func 74) #[R A.V 0] #[])):=hC.keep rfl rfl ((g2.trans gb).trans g4);exact⟨rfl,A',hs0.trans s1,s2,((g2.trans gb).trans g4).trans s3,s4,s5 Y6,by rw[hbe];exact (((f0.grow gb).grow g4).grow s3).box,(((f1.grow gb).grow g4).grow s3).box⟩
 have zK:=U (zA hL (zA aN (zA hlk (zA hk1 (zA hk2 hk3)))));clear r2 g2 f0 f1 hL hC hgn aN hlk hok hsw hk1 hk2 hk3;generalize D.aH .now=rr at*;have heq:=V8
 go_enter_defers Tryz.func35,Tryz.ntmps35
 go_wp2_with (first|(go_at_call 71;refine hcn.out.mono ?_;rintro e H ⟨rfl,rfl⟩)|(go_at_call 73;refine HG.out.mono ?_;rintro e w3 ⟨rfl,Z⟩;obtain⟨x0,x25,z25,q0,q25,hc⟩:=H3.out w3 Z;have HC:=U hc;clear hc Z));refine HC.out.mono ?_;rintro e w4 ⟨rfl,A',s1,s2,s3,s4,s5,B0,B1⟩;have HD:=U (o9 s2 D.count 1 zK.out.2.2.2.2.1 (by rw[zK.out.2.2.2.2.1];have:=zK.out.2.1;omega) (by rw[zK.out.2.2.2.2.2];exact zK.out.2.2.1) (by omega) _ _ B0 B1);have HS:=U (zA s1 (zA s2 (zA s3 (zA s4 s5))));clear s1 s2 s3 s4 s5 B0 B1 HC;go_wp2;refine leaves_cons (f:=72) (args:=#[R w.heap.size 0,.pointer (some ⟨w.heap.size+1,0,none⟩)]) (by simp) (by simp[go_sem]) ?_;refine HD.out.mono ?_;rintro e u w5 ⟨rfl,rfl,r5,g5⟩;simp[Leaves,settle,results,Tryz.results35];obtain⟨s1,s2,s3,s4,s5⟩:=HS.out;obtain⟨hL,_,_,hk1,hk2,hk3⟩:=zK.out;rw[hk3] at r5;exact⟨rfl,A',s1,hL.LM r5 (s3.trans g5) s1 hk1 ⟨s4.grow g5,s5⟩,s3.trans g5⟩
theorem Jf (D:St) (G:Nat):(D.give G).calls=D.calls∧(D.give G).count=D.count∧(D.give G).aA=D.aA∧(D.give G).sw=D.sw:=by
 unfold St.give;dsimp only
 split
 . split<;>exact⟨rfl,rfl,rfl,rfl⟩
 . exact⟨rfl,rfl,rfl,rfl⟩
theorem FZ (hL:Live A D w) (G seq:Nat) (rest:List (Nat×Nat)) (hv:VL D G) (hp:iY D) (hcut:D.cut=(G,seq)::rest) (hln:D.cut.length<1000000) (hall:∀ q,q<8->behind seq (D.calls.getD q none)=true) (aN:D.count<3000000000000000000) (hlk:D.aA<1000000000000000000):
 zk 35 #[R A.V 0] w (xc A w ({D.give G with cut:=rest}) true):=by
 obtain⟨r2,g2,f0,f1⟩:=jJ hL.rep #[R A.V 0] 32 #[I (D.count:Int)] 3;have hcn:=U ((jf (hL.rep.alloc (.cells #[R A.V 0] 32)) (by omega)).mono (fun e w9 h=>(⟨h.1,h.2.symm⟩:e=_∧w9=w.alloc (.cells #[R A.V 0] 32))));have e2:(w.alloc (.cells #[R A.V 0] 32)).cell? (J A.V 2)=zs A.ba 0:=(hL.rep.alloc _).bT 2 rfl;have y0:=f0.cell 0 (v:=R A.V 0) rfl;obtain⟨k1,k2,k3,k4⟩:=Jf D G;have hS:=hL.sx.sw
 have HG := U ((zJ (hL.world r2 g2) G seq rest hv hp hcut hln).mono (fun e w3 h => (by
   rcases h with ⟨q,hq,XH,_⟩|⟨_,h1,A',s1,s0,s2,s3,s5⟩
   . rw[hall q hq] at XH;cases XH
   have hbe:A'.V=A.V:=by obtain⟨⟨L,v,c,f,m,hc',gc,cs,rfl⟩,_⟩:=s1;rfl
   refine⟨h1,A',s1,s2,g2.trans s3,?_,s5,by rw[hbe];exact (f0.grow s3).box,(f1.grow s3).box⟩
   have h9:=hS.grow (g2.trans s3)
   have e9:A'.sv D.sw=A.sv D.sw:=by unfold az.sv;rw[s0]
   rw[hbe,e9]
   exact h9:e=.returned (.bool true)∧∃ A',kR A A'∧aF A' {D.give G with cut:=rest} w3∧Grow A.L w A'.L w3∧jA A'.V A'.L w3 (A'.sv D.sw) D.sw∧jd A' rest∧aP A'.L w3 w.heap.size (R A'.V 0)∧aP A'.L w3 (w.heap.size+1) (I (D.count:Int)))))
 have zK:=U (zA hL (zA aN (zA hlk (zA k1 (zA k2 (zA k3 k4))))));clear r2 g2 f0 f1 hL hS hcut hln hall aN hlk hv hp k1 k2 k3 k4
 go_enter_defers Tryz.func35,Tryz.ntmps35
 go_wp2_with (first|(go_at_call 71;refine hcn.out.mono ?_;rintro e H ⟨rfl,rfl⟩)|(go_at_call 73;refine HG.out.mono ?_;rintro e w4 ⟨rfl,A',s1,s2,s3,s4,s5,B0,B1⟩;have HS:=U (zA s1 (zA s2 (zA s3 (zA s4 s5))));have HD:=U (o9 s2 D.count 0 zK.out.2.2.2.2.1 (by show (D.give G).count<_;rw[zK.out.2.2.2.2.1];have:=zK.out.2.1;omega) (by show (D.give G).aA<_;rw[zK.out.2.2.2.2.2.1];exact zK.out.2.2.1) (by omega) _ _ B0 B1);clear s1 s2 s3 s4 s5 B0 B1));refine leaves_cons (f:=72) (args:=#[R w.heap.size 0,.pointer (some ⟨w.heap.size+1,0,none⟩)]) (by simp) (by simp[go_sem]) ?_;refine HD.out.mono ?_;rintro e u w5 ⟨rfl,rfl,r5,g5⟩;simp[Leaves,settle,results,Tryz.results35];obtain⟨s1,s2,s3,s4,s5⟩:=HS.out;obtain⟨hL,_,_,k1,k2,k3,k4⟩:=zK.out;refine⟨rfl,A',s1,hL.LM r5 (s3.trans g5) s1 k1 ⟨?_,s5⟩,s3.trans g5⟩;show jA A'.V A'.L w5 (A'.sv (D.give G).sw) (D.give G).sw;rw[k4];exact s4.grow g5
def nP (D:St):Bool:=Ue D (D.sw.getD .now)&&(lH D&&(D.cut.all (fun p=>vl D p.1)&&(decide (D.cut.length<1000000)&&(decide (D.count<3000000000000000000)&&(decide (D.aA<1000000000000000000)&&decide (D.calls.length=8))))))
theorem xg {D:St} {seq:Nat} (h8:D.calls.length=8):(D.calls.all (fun c=>match c with|some c=>seq<c.seq|none=>true))=true↔∀ q,q<8->behind seq (D.calls.getD q none)=true:=by
 rw[List.all_eq_true];refine⟨fun h q hq=>?_,fun h c hc=>?_⟩
 . have hl:q<D.calls.length:=by omega
   have:=h _ (List.getElem_mem hl);rw[mM,ym hl];show behind seq D.calls[q]=true;unfold behind
   cases e:D.calls[q] with
   |none=>rfl
   |some c=>rw[e] at this;simpa using this
 . obtain⟨q,hq,rfl⟩:=List.mem_iff_getElem.1 hc
   have:=h q (by omega);rw[mM,ym hq] at this;change behind seq D.calls[q]=true at this;unfold behind at this
   cases e:D.calls[q] with
   |none=>rfl
   |some c=>rw[e] at this;simpa using this
theorem F8 {D:St} (h:D.cut=[]):xe D:=fun A w hL=>Je hL.rep hL.sx.cu h
theorem DV {D:St} {G seq:Nat} {rest:List (Nat×Nat)} (hv:VL D G) (hp:lH D=true) (hcut:D.cut=(G,seq)::rest) (hln:D.cut.length<1000000) (h8:D.calls.length=8) (h:(D.calls.all (fun c=>match c with|some c=>seq<c.seq|none=>true))=false):xe D:=fun A w hL=>by
 refine (zJ hL G seq rest hv (jC hL.rep.nt hp) hcut hln).mono (fun e w3 hh=>?_)
 rcases hh with ⟨q,_,_,h1,h2⟩|⟨h1,_⟩
 . exact⟨h1,h2⟩
 . rw[(xg h8).2 h1] at h;cases h
theorem Jg (hL:Live A D w) (hok:nP D=true):
 zk 35 #[R A.V 0] w (xc A w D.bX.1 D.bX.2):=by
 unfold nP at hok;simp only[gT,zd,List.all_eq_true] at hok;obtain⟨h1,h2,h3,h4,h5,h6,h8⟩:=hok;have hgo:xe D->zk 35 #[R A.V 0] w (xc A w (St.bX.go D).1 (St.bX.go D).2):=fun hg=>by
  have e:∀ k:S,(D.aH k).1.aA+((D.aH k).1.count - D.count)=D.aA+1:=fun k=>by
   obtain⟨-,e2,e3⟩:=nk D k;rw[e2,e3];omega
  cases hsw:D.sw with
  |none=>
   rw[hsw] at h1;have:=FY hL hsw hg h5 h6 h1;unfold St.bX.go;rw[hsw];show Calls _ _ _ w (xc A w {(D.aH .now).1 with aA:=(D.aH .now).1.aA+((D.aH .now).1.count - D.count)} _);rw[e];exact this
  |some k=>
   rw[hsw] at h1;have:=FW hL k hsw hg h5 h6 h1;unfold St.bX.go;rw[hsw];show Calls _ _ _ w (xc A w {(D.aH k).1 with aA:=(D.aH k).1.aA+((D.aH k).1.count - D.count)} _);rw[e];exact this
 unfold St.bX
 split
 . rename_i G seq rest hcut
   have hv:=fT (h3 (G,seq) (by rw[hcut];exact iG))
   split
   . rename_i hall
     exact FZ hL G seq rest hv (jC hL.rep.nt h2) hcut h4 ((xg h8).1 hall) h5 h6
   . rename_i hall
     exact hgo (DV hv h2 hcut h4 h8 (Bool.eq_false_iff.2 hall))
 . rename_i hcut
   exact hgo (F8 hcut)
def PS (w E:World):Prop:=∀ (g:Nat) (cs:Array Value),w.heap[g]? =some (Obj.cells cs 152)->E.heap[g]? =w.heap[g]?
theorem PS.trans {w H w2:World} (h:PS w H) (k:PS H w2):PS w w2:=fun g cs hg=>(k g cs ((h g cs hg).trans hg)).trans (h g cs hg)
theorem PS.below {w E:World} (h:Below w.heap.size w E):PS w E:=fun g cs hg=>h.block g (gH hg)
theorem PS.grown {w E : World} {ob : Option Nat} (h : w.grownBy E ob) (ht : ∀ (g : Nat), ob = some g -> ∃ (cs : Array Value) (T : TypeId), w.heap[g]? = some (Obj.cells cs T) ∧ T ≠ 152) : PS w E := fun g cs hg => h.block g (gH hg) (by
  intro e
  obtain⟨cs',T,h1,h2⟩:=ht g e.symm
  rw[hg] at h1
  simp only[Option.some.injEq,Obj.cells.injEq] at h1
  exact h2 h1.2.1.symm)
theorem PS.but {w E : World} {b : Nat} {cs : Array Value} {T : TypeId} (h : But b w E) (Z : w.heap[b]? = some (.cells cs T)) (hT : T ≠ 152) : PS w E := fun g cs' hg => h.block g (by
  rintro rfl
  rw[Z] at hg
  simp only[Option.some.injEq,Obj.cells.injEq] at hg
  exact hT hg.2.1)
theorem F9 {w E:World} {base:Nat} {v:Value} {n:Nat} {xs:List Value} (h:w.ownsRow base 152 2 v n xs) (hp:PS w E):E.ownsRow base 152 2 v n xs:=by
 rcases h.2 with ⟨e1,e2⟩|⟨g,cap',cur,hv,hb',hg,hx1,hx2,hx3,hx4⟩
 . exact⟨h.1,.inl ⟨e1,e2⟩⟩
 . exact⟨h.1,.inr ⟨g,cap',cur,hv,hb',(hp g _ hg).trans hg,hx1,hx2,hx3,hx4⟩⟩
def DW (base:Nat) (w:World):List Ev->List Value->Prop
 |[],xs=>xs=[]
 |e::l,xs=>∃ vp ys,xs=pU e vp++ys∧w.ownsRow base 152 2 vp e.res.aL.length (bQ e.res.aL)∧DW base w l ys
theorem DW.ps {base:Nat} {w E:World} (hp:PS w E):∀ {l:List Ev} {xs:List Value},DW base w l xs->DW base E l xs
 |[],_,h=>h
 |_::_,_,⟨vp,ys,h1,h2,h3⟩=>⟨vp,ys,h1,F9 h2 hp,DW.ps hp h3⟩
theorem DW.snoc {base:Nat} {w:World} {e:Ev} {vp:Value} (hp:w.ownsRow base 152 2 vp e.res.aL.length (bQ e.res.aL)):∀ {l:List Ev} {xs:List Value},DW base w l xs->DW base w (l++[e]) (xs++pU e vp)
 |[],xs,h=>by
  have h0:xs=[]:=h;subst h0;exact⟨vp,[],by simp,hp,rfl⟩
 |_::_,_,⟨v,ys,h1,h2,h3⟩=>⟨v,ys++pU e vp,by rw[h1,List.append_assoc],h2,DW.snoc hp h3⟩
theorem qU.at {L:eH} {w:World}:∀ {l:List Ev} {xs:List Value},qU L w l xs->∀ {k:Nat} {e:Ev},l[k]? =some e->∃ vp,lC L w vp (bQ e.res.aL)∧∀ j,j<12->xs[k*12+j]? =(pU e vp)[j]?
 |[],_,_,_,_,h=>by cases h
 |e'::l,xs,⟨vp,ys,h1,h2,h3⟩,0,e,h=>by
  obtain rfl:e'=e:=by simpa using h
  refine⟨vp,h2,fun j hj=>?_⟩;rw[h1,Nat.zero_mul,Nat.zero_add,List.getElem?_append_left (by exact hj)]
 |e'::l,xs,⟨vp,ys,h1,h2,h3⟩,k+1,e,h=>by
  obtain⟨vq,g1,g2⟩:=qU.at h3 (k:=k) (e:=e) (by simpa using h);refine⟨vq,g1,fun j hj=>?_⟩;rw[h1,EB (by show 12<=_;omega),show (k+1)*12+j - (pU e' vp).length=k*12+j by show _ - 12=_;omega];exact g2 j hj
theorem Rj:(Tryz.prog.info? 62).map (fun i=>(i.zero,i.size,i.bytes))=some (some (.agg #[I 0,I 0,zu 0,I 0,I 0,I 0,I 0,I 0,I 0,.slice none 0 0,I 0,I 0]),12,112):=by kernel_rfl
theorem OX {w:World} {base base':Nat} {e:TypeId} {size:Nat} {v:Value} {n:Nat} {xs:List Value} (h:w.ownsRow base e size v n xs) (Z:base'<=base):w.ownsRow base' e size v n xs:=by
 rcases h.2 with ⟨e1,e2⟩|⟨g,cap',cur,hv,hb',hg,hx⟩
 . exact⟨h.1,.inl ⟨e1,e2⟩⟩
 . exact⟨h.1,.inr ⟨g,cap',cur,hv,fq Z hb',hg,hx⟩⟩
theorem LP {w:World} {base:Nat} {e:TypeId} {size:Nat} {v:Value} {n:Nat} {xs:List Value} (h:w.ownsRow base e size v n xs) (hn:0<n):∃ g cap,v=.slice (some (J g 0)) n cap∧∃ cur,w.heap[g]? =some (.cells cur e):=by
 rcases h.2 with ⟨_,h0⟩|⟨g,cap,cur,hv,Z,hg,hnc,hcm,_⟩
 . omega
 . exact⟨g,cap,hv,cur,hg⟩
theorem LQ (hR:aF A D w) (hn:D.aQ.length<100000) (hp:∀ e∈D.aQ,e.res.aL.length<=1000000):
 zk 15 #[R A.V 0] w fun e E=>∃ v cs,e=.returned v∧E.ownsRow w.heap.size 62 12 v D.aQ.length cs∧DW w.heap.size E D.aQ cs∧Below w.heap.size w E:=by
 obtain⟨ii,hii,hz0,hz1,hz2⟩:=info_parts Rj;have e24:w.cell? (J A.V 24)=some A.jP:=hR.bT 24 rfl;obtain⟨ta,tc,hv,_⟩:=Ow.bO (hR.mem.all .aQ).1;rw[hv] at e24;obtain⟨n,hnn⟩:∃ n,n=D.aQ.length:=⟨_,rfl⟩
 rw[<-hnn] at hv e24 hn ⊢;have H0:=U (zA hR (zA hn (zA hp (zA hv hnn))));clear hR hn hp hv hnn;go_enter Tryz.func15,Tryz.ntmps15;go_wp2
 go_loopw [3,11] (fun l i wr=>∃ (k:Nat) (cs:List Value),i=I k∧k<=n∧wr.ownsRow w.heap.size 62 12 l k cs∧DW w.heap.size wr (D.aQ.take k) cs∧Below w.heap.size w wr) (fun _ i _=>n - (intOf i).toNat)
 case atStart=>exact⟨0,[],rfl,zz _,World.ownsRow_nil _ _ _ _,rfl,Below.refl _ _⟩
 case round=>
  obtain⟨k,cs,rfl,hkn,aY,hev,Z⟩:=hrel;obtain⟨la,lc,rfl,Y7,Y8,_⟩:=Ow.bO aY;obtain⟨hR,hn,hp,hv,hnn⟩:=H0.out
  by_cases hlt:k<n
  . obtain⟨ev,Rk⟩:∃ ev,D.aQ[k]? =some ev:=⟨_,ym (by omega)⟩
    have hr:=hR.below Z;have ht:wr.ownsRow 0 62 12 A.jP D.aQ.length A.gV:=(hr.mem.all .aQ).1;rw[<-hnn] at ht;obtain⟨gt,tc',hv',_⟩:=LP ht (by omega);rw[hv] at hv';simp only[Value.slice.injEq] at hv';obtain⟨rfl,_,rfl⟩:=hv';obtain⟨vp,hpr,hcs⟩:=qU.at hr.ev Rk;obtain⟨pa,pn,pc,rfl⟩:=zy hpr.1;have hpn:ev.res.aL.length=pn:=by
     obtain⟨_,_,_,e0,h1,_⟩:=hpr.1;simp only[Value.slice.injEq] at e0;rw[mY] at h1;omega
    have hpl:=hp ev (List.mem_of_getElem? Rk);rw[hv] at ht;have hX:∀ j v,j<12->(pU ev (.slice pa pn pc))[j]? =some v->wr.cell? ⟨gt,k*12+j,none⟩=some v:=fun j v hj hj2=>by
     rw[ht.cellAt (k*12+j) (by omega),hcs j hj];exact hj2
    have X0:=hX 0 _ (by omega) rfl;rw[Nat.add_zero] at X0;have X1:=hX 1 _ (by omega) rfl;have X2:=hX 2 _ (by omega) rfl;have X3:=hX 3 _ (by omega) rfl;have X4:=hX 4 _ (by omega) rfl;have X5:=hX 5 _ (by omega) rfl;have X6:=hX 6 _ (by omega) rfl;have X7:=hX 7 _ (by omega) rfl;have X8:=hX 8 _ (by omega) rfl;have X9:=hX 9 _ (by omega) rfl;have Y9:=hX 10 _ (by omega) rfl;have Za:=hX 11 _ (by omega) rfl;have HC:Hid (∀ H,Below wr.heap.size wr H->zk 53 #[.agg #[I ev.res.e,I ev.res.value,.slice pa pn pc,I ev.res.over,I ev.res.aI]] H fun e E=>∃ qa qc,e=.returned (.agg #[I ev.res.e,I ev.res.value,.slice qa pn qc,I ev.res.over,I ev.res.aI])∧E.ownsRow H.heap.size 152 2 (.slice qa pn qc) pn (bQ ev.res.aL)∧Below H.heap.size H E):=fun H hb1=>rz H _ _ _ _ pa pn pc ev.res.aL (iJ.row (hpr.1.grow (Grow.below hb1))) hpn (by omega)
    have b0:((k:Int)<(n:Int))=True:=by simp;omega
    have b1:(k:Int)<(n:Int):=by omega
    have b2:(0:Int)<=(k:Int):=by omega
    have n3:IntKind.i64.wrap ((k:Int)+1)=(k:Int)+1:=by rw[je];omega
    have HX:=U (zA aY (zA hev (zA Z (zA Rk (zA hlt (zA hpn (zA hn hnn)))))));clear aY hev Z Rk hlt hpn hn hnn hR hp hv hr ht hpr hcs hpl hX hkn;have KE:Hid (∀ H,H=wr.alloc (.cells #[I ev.kind,I ev.t,zu ev.n,I ev.op.kind,I ev.op.F,I ev.op.hi,I ev.op.value,I ev.res.e,I ev.res.value,.slice pa pn pc,I ev.res.over,I ev.res.aI] 62)->(zT H wr.heap.size 7 ev.res.e∧zT H wr.heap.size 8 ev.res.value∧H.cell? (J wr.heap.size 9)=some (.slice pa pn pc)∧zT H wr.heap.size 10 ev.res.over∧zT H wr.heap.size 11 ev.res.aI)):=by
     rintro H rfl;have h:=heap_alloc_new wr (.cells #[I ev.kind,I ev.t,zu ev.n,I ev.op.kind,I ev.op.F,I ev.op.hi,I ev.op.value,I ev.res.e,I ev.res.value,.slice pa pn pc,I ev.res.over,I ev.res.aI] 62);refine⟨?_,?_,?_,?_,?_⟩<;>(rw[cell_of_row _ _ _ _ _ _ h];rfl)
    go_upto_region 5 with fail
    have hb1:Below wr.heap.size wr (wr.alloc (.cells #[I ev.kind,I ev.t,zu ev.n,I ev.op.kind,I ev.op.F,I ev.op.hi,I ev.op.value,I ev.res.e,I ev.res.value,.slice pa pn pc,I ev.res.over,I ev.res.aI] 62)):=(Below.refl _ _).alloc (zr _) _;have h1:=heap_alloc_new wr (.cells #[I ev.kind,I ev.t,zu ev.n,I ev.op.kind,I ev.op.F,I ev.op.hi,I ev.op.value,I ev.res.e,I ev.res.value,.slice pa pn pc,I ev.res.over,I ev.res.aI] 62);obtain⟨y7,y8,y9,PL,UG⟩:=KE.out _ rfl;have MR:=U (HC.out _ hb1);have hsz:(wr.alloc (.cells #[I ev.kind,I ev.t,zu ev.n,I ev.op.kind,I ev.op.F,I ev.op.hi,I ev.op.value,I ev.res.e,I ev.res.value,.slice pa pn pc,I ev.res.over,I ev.res.aI] 62)).heap.size=wr.heap.size+1:=by simp
    have H1:=U (zA hb1 (zA h1 hsz));clear hb1 h1 HC KE X0 X1 X2 X3 X4 X5 X6 X7 X8 X9 Y9 Za hsz;generalize wr.alloc _=H at*;go_upto_region 6 with (first|(go_at_call 53;refine MR.out.mono ?_;rintro e w2 ⟨qa,qc,rfl,q1,q2⟩;have hb2:=H1.out.1.trans (q2.mono H1.out.1.size);have h2:w2.heap[wr.heap.size]? =some (.cells #[I ev.kind,I ev.t,zu ev.n,I ev.op.kind,I ev.op.F,I ev.op.hi,I ev.op.value,I ev.res.e,I ev.res.value,.slice pa pn pc,I ev.res.over,I ev.res.aI] 62):=(q2.block _ (by rw[H1.out.2.2];omega)).trans H1.out.2.1;have H2:=U (zA q1 (zA q2 (zA hb2 h2)));have XI:=kP h2;clear q1 q2 hb2 h2)|(refine wpList_store_mid rfl 46 (.tmp 18) (.tmp 17) rfl wr.heap.size 7 #[I ev.res.e,I ev.res.value,.slice qa pn qc,I ev.res.over,I ev.res.aI] rfl rfl (by intro j hj;have h:=XI (7+j) (by simp at hj ⊢;omega);simpa [Nat.add_assoc] using h) (by kernel_rfl) (by simp[Value.oneCell']) ?_;generalize hws:World.setCells _ _ _ _=w3))
    obtain⟨q1,q2,hb2,h2⟩:=H2.out;have h3:w3.heap[wr.heap.size]? =some (.cells #[I ev.kind,I ev.t,zu ev.n,I ev.op.kind,I ev.op.F,I ev.op.hi,I ev.op.value,I ev.res.e,I ev.res.value,.slice qa pn qc,I ev.res.over,I ev.res.aI] 62):=by
     rw[<-hws];have g1:=heap_setCell_same h2 7 (I ev.res.e);have g2:=heap_setCell_same g1 8 (I ev.res.value);have g3:=heap_setCell_same g2 9 (.slice qa pn qc);have g4:=heap_setCell_same g3 10 (I ev.res.over);have g5:=heap_setCell_same g4 11 (I ev.res.aI);exact g5
    have dE:But wr.heap.size w2 w3:=by rw[<-hws];exact But.setCells _ _ _ _
    obtain⟨aY,hev,Z,Rk,hlt,hpn,hn,hnn⟩:=HX.out;have hsame:∀ b,b<wr.heap.size->w3.heap[b]? =wr.heap[b]? :=fun b hb'=>(dE.block b (by omega)).trans (hb2.block b hb')
    have hown3:=lV (E:=w3.alloc (.cells #[I ev.kind,I ev.t,zu ev.n,I ev.op.kind,I ev.op.F,I ev.op.hi,I ev.op.value,I ev.res.e,I ev.res.value,.slice qa pn qc,I ev.res.over,I ev.res.aI] 62)) aY fun g hg=>(heap_alloc_old _ _ (yI (aY.lt g hg).2 (by rw[dE.size];exact hb2.size))).trans (hsame g (aY.lt g hg).2)
    have XJ:PS wr (w3.alloc (.cells #[I ev.kind,I ev.t,zu ev.n,I ev.op.kind,I ev.op.F,I ev.op.hi,I ev.op.value,I ev.res.e,I ev.res.value,.slice qa pn qc,I ev.res.over,I ev.res.aI] 62)):=((PS.below hb2).trans (PS.but dE h2 (by decide))).trans (PS.below ((Below.refl _ _).alloc (zr _) _));have ps2:PS w2 (w3.alloc (.cells #[I ev.kind,I ev.t,zu ev.n,I ev.op.kind,I ev.op.F,I ev.op.hi,I ev.op.value,I ev.res.e,I ev.res.value,.slice qa pn qc,I ev.res.over,I ev.res.aI] 62)):=(PS.but dE h2 (by decide)).trans (PS.below ((Below.refl _ _).alloc (zr _) _));have hpr:(w3.alloc (.cells #[I ev.kind,I ev.t,zu ev.n,I ev.op.kind,I ev.op.F,I ev.op.hi,I ev.op.value,I ev.res.e,I ev.res.value,.slice qa pn qc,I ev.res.over,I ev.res.aI] 62)).ownsRow w.heap.size 152 2 (.slice qa pn qc) pn (bQ ev.res.aL):=OX (F9 q1 ps2) (by rw[H1.out.2.2];have:=Z.size;omega);have hb3:Below w.heap.size w (w3.alloc (.cells #[I ev.kind,I ev.t,zu ev.n,I ev.op.kind,I ev.op.F,I ev.op.hi,I ev.op.value,I ev.res.e,I ev.res.value,.slice qa pn qc,I ev.res.over,I ev.res.aI] 62)):=by
     refine Below.alloc ⟨?_,?_,?_,?_,?_⟩ (by rw[dE.size];exact fq Z.size hb2.size) _
     . exact dE.os.trans (hb2.os.trans Z.os)
     . exact dE.tape.trans (hb2.tape.trans Z.tape)
     . exact dE.output.trans (hb2.output.trans Z.output)
     . rw[dE.size];exact fq Z.size hb2.size
     . exact fun b hb'=>(hsame b (yI hb' Z.size)).trans (Z.block b hb')
    have Ug:∀ (g:Nat),(Value.slice la k lc).ownBlock=some g->∃ (cs:Array Value) (T:TypeId),(w3.alloc (.cells #[I ev.kind,I ev.t,zu ev.n,I ev.op.kind,I ev.op.F,I ev.op.hi,I ev.op.value,I ev.res.e,I ev.res.value,.slice qa pn qc,I ev.res.over,I ev.res.aI] 62)).heap[g]? =some (Obj.cells cs T)∧T≠152:=fun g hg=>by
     rcases hown3.2 with ⟨e0,_⟩|⟨g',cap,cur,hv,_,hgc,_⟩
     . simp only[Value.slice.injEq] at e0
       rw[e0.1] at hg;cases hg
     . rw[hv] at hg
       obtain rfl:g'=g:=by simpa [Value.ownBlock] using hg
       exact⟨cur,_,hgc,by decide⟩
    have HZ:=U (zA hown3 (zA (hev.ps XJ) (zA hpr (zA hb3 (zA Ug (zA Rk (zA hlt (zA hpn hn))))))));have Z0:=(show w3.cell? (J wr.heap.size 0)=some _ by rw[cell_of_row _ _ _ _ _ _ h3];rfl)
    have Z1:=(show w3.cell? (J wr.heap.size 1)=some _ by rw[cell_of_row _ _ _ _ _ _ h3];rfl)
    have Z2:=(show w3.cell? (J wr.heap.size 2)=some _ by rw[cell_of_row _ _ _ _ _ _ h3];rfl)
    have Z3:=(show w3.cell? (J wr.heap.size 3)=some _ by rw[cell_of_row _ _ _ _ _ _ h3];rfl)
    have Z4:=(show w3.cell? (J wr.heap.size 4)=some _ by rw[cell_of_row _ _ _ _ _ _ h3];rfl)
    have Z5:=(show w3.cell? (J wr.heap.size 5)=some _ by rw[cell_of_row _ _ _ _ _ _ h3];rfl)
    have Z6:=(show w3.cell? (J wr.heap.size 6)=some _ by rw[cell_of_row _ _ _ _ _ _ h3];rfl)
    have Z7:=(show w3.cell? (J wr.heap.size 7)=some _ by rw[cell_of_row _ _ _ _ _ _ h3];rfl)
    have Z8:=(show w3.cell? (J wr.heap.size 8)=some _ by rw[cell_of_row _ _ _ _ _ _ h3];rfl)
    have Z9:=(show w3.cell? (J wr.heap.size 9)=some _ by rw[cell_of_row _ _ _ _ _ _ h3];rfl)
    have Z10:=(show w3.cell? (J wr.heap.size 10)=some _ by rw[cell_of_row _ _ _ _ _ _ h3];rfl)
    have Z11:=(show w3.cell? (J wr.heap.size 11)=some _ by rw[cell_of_row _ _ _ _ _ _ h3];rfl)
    clear q1 q2 hb2 h2 h3 dE aY hev Z Rk hlt hpn hn hnn hsame hown3 XJ ps2 hpr hb3 Ug H2 HX H1 MR hws XI y7 y8 y9 PL UG;go_wp2_with (refine Ow.dZ _ rfl (.tmp 19) (.tmp 21) 52 rfl w.heap.size 62 ii _ 12 112 Tryz.underlying52 hii hz0 hz1 hz2 rfl (by decide) (.slice la k lc) k cs rfl HZ.out.1 (J w3.heap.size 0) 1 1 (by omega) [I ev.kind,I ev.t,zu ev.n,I ev.op.kind,I ev.op.F,I ev.op.hi,I ev.op.value,I ev.res.e,I ev.res.value,.slice qa pn qc,I ev.res.over,I ev.res.aI] rfl rfl (fun j u hu=>Ow.iC w3 [I ev.kind,I ev.t,zu ev.n,I ev.op.kind,I ev.op.F,I ev.op.hi,I ev.op.value,I ev.res.e,I ev.res.value,.slice qa pn qc,I ev.res.over,I ev.res.aI] _ w3.heap.size (by simp) j u hu) (by intro u hu;simp at hu;rcases hu with rfl|rfl|rfl|rfl|rfl|rfl|rfl|rfl|rfl|rfl|rfl|rfl<;>rfl) (by have:=HZ.out.2.2.2.2.2.2.1;have:=HZ.out.2.2.2.2.2.2.2.2;unfold maxLen;omega) (by have:=HZ.out.2.2.2.2.2.2.1;have:=HZ.out.2.2.2.2.2.2.2.2;omega) (HZ.out.2.2.2.1.size) ?_;intro v' w4 q1 q2 q3;obtain⟨av,cv,rfl,_⟩:=Ow.bO q1;have HY:=U (zA q1 q2);clear q1 q2 q3)
    go_roundw
    case rel=>
     obtain⟨z1,z2,z3,z4,z5,z6,z7,z8,z9⟩:=HZ.out;obtain⟨q1,q2⟩:=HY.out;have XK:=PS.grown q2 z5;refine⟨k+1,cs++[I ev.kind,I ev.t,zu ev.n,I ev.op.kind,I ev.op.F,I ev.op.hi,I ev.op.value,I ev.res.e,I ev.res.value,.slice qa pn qc,I ev.res.over,I ev.res.aI],rfl,z7,q1,?_,⟨q2.os.trans z4.os,q2.tape.trans z4.tape,q2.output.trans z4.output,fq z4.size q2.size,fun b Z=>(q2.block b (yI Z z4.size) (fun e=>?_)).trans (z4.block b Z)⟩⟩
     . rw[List.take_add_one,z6]
       have h9:DW w.heap.size w4 (D.aQ.take k++[ev]) (cs++pU ev (.slice qa pn qc)):=(z2.ps XK).snoc (by rw[z8];exact F9 z3 XK);exact h9
     . have:=(z1.lt b e.symm).1
       omega
    case measure=>have:=HZ.out.2.2.2.2.2.2.1;simp[intOf];omega
  . obtain rfl:k=n:=by omega
    have b0:((k:Int)<(k:Int))=False:=by simp
    have HX:=U (zA aY (zA hev (zA Z hnn)));clear aY hev Z hnn hlt hkn hn hp hv hR;go_wp2;go_ret;obtain⟨aY,hev,Z,hnn⟩:=HX.out;rw[hnn,List.take_length] at hev;exact⟨_,cs,rfl,aY,hev,Z⟩
end Go.Proofs.YthicolbbmjfkfaaGreat.Em
