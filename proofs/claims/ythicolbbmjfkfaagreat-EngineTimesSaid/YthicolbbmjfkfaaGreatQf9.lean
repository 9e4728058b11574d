import Derived.Test.YthicolbbmjfkfaaGreatQf5
import Derived.Test.YthicolbbmjfkfaaGreatQf6
set_option linter.unusedVariables false
set_option linter.unusedSimpArgs false
set_option maxRecDepth 100000
set_option maxHeartbeats 1600000
namespace Go.Proofs.YthicolbbmjfkfaaGreat.Em
open Go.ChangeShapes Go.WideShapes Go.ChangeAt Go.RowKit En
theorem wI {A:az} {D:St} {w:World} (hR:aF A D w) (s G:Nat):
 zk 171 #[R A.V 0,R (A.bt s) 0,R (A.bc s) 0,.pointer (some ⟨(kp A D s).x,0,none⟩),zu G] w (bG A w s (D,.over G)):=by
 have ae:=U (jL hR #[R A.V 0] 32 #[R (A.bt s) 0] 100 #[R (A.bc s) 0] 105 #[.pointer (some ⟨(kp A D s).x,0,none⟩)] 223 #[zu G] 25);clear hR;go_enter Tryz.func171,Tryz.ntmps171;go_wp2;go_ret;obtain⟨r1,r2,f0,f1,f2,f3,f4⟩:=ae.out;exact⟨A,_,rfl,r1,r2,bU.refl _ _,_,_,_,_,_,rfl,f0.box,f2.box,f4.box,f1.box,f3.box⟩
variable {A:az} {D:St} {w:World}
theorem AY (hR:aF A D w) (s:Nat) (t:bL) (ht:D.ai.getD s none=some t) (G head:Nat) (aN:D.count<4000000000000000000) (hv:VL D G) (b0 b1 b2 b3 b4 b5:Nat)
 (B0:aP A.L w b0 (R A.V 0)) (B1:aP A.L w b1 (zu G)) (B2:aP A.L w b2 (.pointer (some ⟨(kp A D s).x,0,none⟩))) (B3:aP A.L w b3 (R (A.bt s) 0)) (B4:aP A.L w b4 (R (A.bc s) 0)) (B5:jX A.L w b5 true head):
 zk 169 #[R b0 0,R b1 0,R b2 0,R b3 0,R b4 0,R b5 0] w (lF A w s (D.run s (.eU true G head))):=by
 have hsl:=hR.sl;obtain⟨hv5,X5,R5⟩:=B5;obtain⟨ha,hn,hcap,rfl,hlen,hcap1,hcap2,hrow⟩:=R5;have c0:=B0.cell;have c1:=B1.cell;have e2:=hR.z2;have HS:=U (flip (eD G 1 1 rfl hv.lo (by have:=hv.hi;omega) hv.u (by omega) w.drew));have HF:=U (qV w.drew);have HL:=U (gy hR.drew (af G 1) ever (dD hR hv.lo hv.hi (by omega)) aN);have HG:=zG A.L w;have HB:Hid (∀ H,aF A (D.put (af G 1) ever) H->Grow A.L w A.L H->zk 171 #[R A.V 0,R (A.bt s) 0,R (A.bc s) 0,.pointer (some ⟨(kp A D s).x,0,none⟩),zu G] H (bG A H s (D.put (af G 1) ever,.over G))∧zS H b0 0 A.V 0∧zV H b1 0 G∧H.cell? (J b2 0)=some (.pointer (some ⟨(kp A D s).x,0,none⟩))∧zS H b3 0 (A.bt s) 0∧zS H b4 0 (A.bc s) 0):=
  fun H q g=>⟨wI q s G,(B0.grow g).cell,(B1.grow g).cell,(B2.grow g).cell,(B3.grow g).cell,(B4.grow g).cell⟩
 have aU:D.run s (.eU true G head)=(D.put (af G 1) ever,some (.over G)):=rfl;rw[aU];clear hR ht aN hv B0 B1 B2 B3 B4 X5 aU hsl hlen hcap1 hcap2 hrow;go_enter Tryz.func169,Tryz.ntmps169;go_wp2_with fail;refine wp_region_still_tail 7 (by kernel_rfl) (by kernel_rfl) ?_;simp only[jZ,j6,kg,kr]
 repeat still_step
 still_call HS.out
 still_call HF.out
 refine wpStill_nil ?_;change wpList _ _ _ _ _ w.drew;generalize w.drew=wd at*;go_wp2_with (first|(go_at_call 47;refine HL.out.mono ?_;rintro e H ⟨rfl,q1,q2⟩;have g1:=HG.out.trans q2;obtain⟨hf,d0,d1,d2,d3,d4⟩:=HB.out H q1 g1;have HQ:=U (zA hf g1);clear q1 q2 g1 hf)|(go_at_call 171;refine HQ.out.1.mono ?_;rintro e w2 ⟨A2,v,rfl,p1,p2,p3,p4⟩));go_ret;exact⟨A2,v,rfl,p1,HQ.out.2.trans p2,p3,p4⟩
theorem yz (hR:aF A D w) (s:Nat) (t:bL) (ht:D.ai.getD s none=some t) (G head:Nat) (aN:D.count<4000000000000000000) (hv:VL D G) (b0 b1 b2 b3 b4 b5:Nat)
 (B0:aP A.L w b0 (R A.V 0)) (B1:aP A.L w b1 (zu G)) (B2:aP A.L w b2 (.pointer none)) (B3:aP A.L w b3 (R (A.bt s) 0)) (B4:aP A.L w b4 (R (A.bc s) 0)) (B5:jX A.L w b5 false head):
 zk 169 #[R b0 0,R b1 0,R b2 0,R b3 0,R b4 0,R b5 0] w (lF A w s (D.run s (.eU false G head))):=by
 have hsl:=hR.sl;obtain⟨hv5,X5,R5⟩:=B5;obtain⟨ha,hn,hcap,rfl,hlen,hcap1,hcap2,hrow⟩:=R5;have c0:=B0.cell;have c1:=B1.cell;have e2:=hR.z2;have HS:=U (flip (eD G 1 1 rfl hv.lo (by have:=hv.hi;omega) hv.u (by omega) w.drew));have HF:=U (qV w.drew);have HL:=U (gy hR.drew (af G 1) ever (dD hR hv.lo hv.hi (by omega)) aN);have HG:=zG A.L w;have hn1:hn=1:=by simpa using hlen.symm
 subst hn1;obtain⟨hg,hoff,rfl,UH,NR,hcs⟩:=hrow.resolve_left (by omega);have h0:w.cell? (J hg hoff)=zv head:=hcs 0 (by omega);have HB:Hid (∀ H,aF A (D.put (af G 1) ever) H->Grow A.L w A.L H->zk 170 #[R A.V 0,R (A.bt s) 0,R (A.bc s) 0,zu G,zu head] H.drew (bG A H.drew s (D.put (af G 1) ever,.push G head))∧zS H b0 0 A.V 0∧zV H b1 0 G∧H.cell? (J b2 0)=some (.pointer none)∧zS H b3 0 (A.bt s) 0∧zS H b4 0 (A.bc s) 0∧H.cell? (J b5 0)=some (.slice (some (J hg hoff)) 1 hcap)∧zV H hg hoff head):=
  fun H q g=>⟨JZ q.drew s G head,(B0.grow g).cell,(B1.grow g).cell,(B2.grow g).cell,(B3.grow g).cell,(B4.grow g).cell,(X5.grow g).cell,(World.cell?_of_block (w:=w) (a:=(J hg hoff)) (g.block hg NR UH)).trans h0⟩
 have aU:D.run s (.eU false G head)=(D.put (af G 1) ever,some (.push G head)):=rfl;rw[aU];clear hR ht aN hv B0 B1 B2 B3 B4 X5 aU hsl hlen hcap1 hcap2 hrow hcs h0;go_enter Tryz.func169,Tryz.ntmps169;go_wp2_with fail;refine wp_region_still_tail 7 (by kernel_rfl) (by kernel_rfl) ?_;simp only[jZ,j6,kg,kr]
 repeat still_step
 still_call HS.out
 still_call HF.out
 refine wpStill_nil ?_;change wpList _ _ _ _ _ w.drew;generalize w.drew=wd at*;go_wp2_with (go_at_call 47;refine HL.out.mono ?_;rintro e H ⟨rfl,q1,q2⟩;have g1:=HG.out.trans q2;obtain⟨hf,d0,d1,d2,d3,d4,d5,d6⟩:=HB.out H q1 g1;have HQ:=U (zA hf (g1.trans (Grow.drew _ _)));clear q1 q2 g1 hf);refine wp_region_still_tail 7 (by kernel_rfl) (by kernel_rfl) ?_;simp only[jZ,j6,kg,kr]
 repeat still_step
 refine wpStill_nil ?_;change wpList _ _ _ _ _ H.drew;generalize H.drew=SG at*;go_wp2_with (go_at_call 170;refine HQ.out.1.mono ?_;rintro e w2 ⟨A2,v,rfl,p1,p2,p3,p4⟩);go_ret;exact⟨A2,v,rfl,p1,HQ.out.2.trans p2,p3,p4⟩
theorem NY (hR:aF A D w) (s:Nat) (t:bL) (ht:D.ai.getD s none=some t) (x:Bool) (G head:Nat) (aN:D.count<4000000000000000000) (hv:VL D G) (b0 b1 b2 b3 b4 b5:Nat)
 (B0:aP A.L w b0 (R A.V 0)) (B1:aP A.L w b1 (zu G)) (B2:aP A.L w b2 ((kp A D s).xo x)) (B3:aP A.L w b3 (R (A.bt s) 0)) (B4:aP A.L w b4 (R (A.bc s) 0)) (B5:jX A.L w b5 x head):
 zk 169 #[R b0 0,R b1 0,R b2 0,R b3 0,R b4 0,R b5 0] w (lF A w s (D.run s (.eU x G head))):=by
 cases x
 . exact yz hR s t ht G head aN hv b0 b1 b2 b3 b4 b5 B0 B1 B2 B3 B4 B5
 . exact AY hR s t ht G head aN hv b0 b1 b2 b3 b4 b5 B0 B1 B2 B3 B4 B5
theorem uT (h:aF A D w) (i o n:Nat) (z:Int) (hz:z=(i:Int)) (hi:i<D.words.length) (hc:D.count<4000000000000000000):
 zk 45 #[R A.ba 0,I z,zu o,zu n] w (uL A w (D.cB i o n) (.bool (D.word i==o))):=by subst hz;exact nH h i o n hi hc
theorem Kw (l:List (Nat×lg)) (F:Nat) (x y:lg) (h:l.lookup F=none):upd ((F,x)::l) F y=(F,y)::l:=by
 have h1:=qb h;unfold upd;simp only[List.map_cons,if_true]
 congr 1
 conv=>rhs;rw[<-List.map_id l]
 refine List.map_congr_left fun p hp=>?_
 simp[h1 p hp]
theorem sO {D:St} {s:Nat} {t:bL} (ht:D.ai.getD s none=some t) (F:Nat) (x y:lg) (hx:t.cell F=none):
 (D.bS s F x).bM s {(D.bS s F x).t s with cells:=upd ((D.bS s F x).t s).cells F y}=D.bS s F y:=by
 have e:(D.bS s F x).t s={t with cells:=(F,x)::t.cells,keys:=t.keys++[F]}:=by
  refine cK ?_;unfold St.bS;rw[cK ht,dB (dA ht),aW rfl]
 rw[e];unfold St.bS St.bM;simp only[cK ht,List.set_set];rw[Kw _ _ _ _ hx]
theorem uU {D:St} {s:Nat} {t:bL} (ht:D.ai.getD s none=some t) (F:Nat) (x:lg):(D.bS s F x).ai.getD s none=some {t with cells:=(F,x)::t.cells,keys:=t.keys++[F]}:=by
 unfold St.bS;rw[cK ht,dB (dA ht),aW rfl]
theorem AZ (hR:aF A D w) (s:Nat) (t:bL) (ht:D.ai.getD s none=some t) (c:dY) (hc:D.calls.getD s none=some c) (G head:Nat) (Y:c.op.F<64) (hx:t.cell c.op.F=none) (hkl:t.keys.length<1000000) (aN:D.count<4000000000000000000) (b0 b1 b2 b3 b4:Nat)
 (B0:aP A.L w b0 (R A.V 0)) (B1:aP A.L w b1 (R (A.bc s) 0)) (B2:aP A.L w b2 (zu head)) (B3:aP A.L w b3 (zu G)) (B4:aP A.L w b4 (R (A.bt s) 0)) (hm:D.word (9+c.op.F)≠head):
 zk 191 #[R b0 0,R b1 0,R b2 0,R b3 0,R b4 0] w (lF A w s (D.run s (.dV G head))):=by
 have c0:=B0.cell;have c1:=B1.cell;have c2:=B2.cell;have c3:=B3.cell;have e2:=hR.z2;have k1:w.cell? (J (A.bc s) 1)=zt c.op.F:=hR.call hc 1 rfl;have n1:IntKind.i64.wrap (9+(c.op.F:Int))=9+(c.op.F:Int):=by rw[je];omega
 have HL:=U (uT hR.drew (9+c.op.F) head G (9+(c.op.F:Int)) (by omega) (by rw[hR.nw];omega) aN);have HG:=zG A.L w;have aU:D.run s (.dV G head)=(D.tick,some (.fresh G)):=by simp[St.run,bC hc,St.cB,hm]
 rw[aU];have Z:(D.word (9+c.op.F)==head)=false:=by simpa using hm
 have hcs:D.cB (9+c.op.F) head G=D.tick:=bu hm;rw[Z,hcs] at HL;have HB:Hid (∀ H,aF A D.tick H->Grow A.L w A.L H->zk 131 #[R A.V 0,R (A.bt s) 0,R (A.bc s) 0,zu G] H (bG A H s (D.tick,.fresh G))∧zS H b0 0 A.V 0∧zS H b1 0 (A.bc s) 0∧zV H b3 0 G∧zS H b4 0 (A.bt s) 0):=
  fun H q g=>⟨yM q s G,(B0.grow g).cell,(B1.grow g).cell,(B3.grow g).cell,(B4.grow g).cell⟩
 clear hR ht hc Y hx hkl aN B0 B1 B2 B3 B4 hm aU Z hcs;generalize c.op.F=F at*;go_enter Tryz.func191,Tryz.ntmps191;go_wp2_with fail;refine wp_region_still_tail 12 (by kernel_rfl) (by kernel_rfl) ?_;simp only[jZ,j6,kg,kr]
 repeat still_step
 refine wpStill_nil ?_;change wpList _ _ _ _ _ w.drew;generalize w.drew=wd at*;go_wp2_with (first|(go_at_call 45;refine HL.out.mono ?_;rintro e H ⟨rfl,q1,q2⟩;have g1:=HG.out.trans q2;obtain⟨hf,d0,d1,d3,d4⟩:=HB.out H q1 g1;have HQ:=U (zA hf g1);clear q1 q2 g1 hf)|(go_at_call 131;refine HQ.out.1.mono ?_;rintro e w2 ⟨A2,v,rfl,p1,p2,p3,p4⟩));go_ret;exact⟨A2,v,rfl,p1,HQ.out.2.trans p2,p3,p4⟩
theorem C9 (hR:aF A D w) (s:Nat) (t:bL) (ht:D.ai.getD s none=some t) (c:dY) (hc:D.calls.getD s none=some c) (G head:Nat) (Y:c.op.F<64) (hx:t.cell c.op.F=none) (hkl:t.keys.length<1000000) (aN:D.count<4000000000000000000) (b0 b1 b2 b3 b4:Nat)
 (B0:aP A.L w b0 (R A.V 0)) (B1:aP A.L w b1 (R (A.bc s) 0)) (B2:aP A.L w b2 (zu head)) (B3:aP A.L w b3 (zu G)) (B4:aP A.L w b4 (R (A.bt s) 0)) (hm:D.word (9+c.op.F)=head):
 zk 191 #[R b0 0,R b1 0,R b2 0,R b3 0,R b4 0] w (lF A w s (D.run s (.dV G head))):=by
 have c0:=B0.cell;have c1:=B1.cell;have c2:=B2.cell;have c3:=B3.cell;have e2:=hR.z2;have k1:w.cell? (J (A.bc s) 1)=zt c.op.F:=hR.call hc 1 rfl;have n1:IntKind.i64.wrap (9+(c.op.F:Int))=9+(c.op.F:Int):=by rw[je];omega
 have HL:=U (uT hR.drew (9+c.op.F) head G (9+(c.op.F:Int)) (by omega) (by rw[hR.nw];omega) aN);have HG:=zG A.L w;have aU:D.run s (.dV G head)=((D.put (9+c.op.F) G).bS s c.op.F ⟨G,0,true⟩,some (.fin {})):=by simp[St.run,bC hc,St.cB,hm]
 rw[aU];have Z:(D.word (9+c.op.F)==head)=true:=by simpa using hm
 have hcs:D.cB (9+c.op.F) head G=D.put (9+c.op.F) G:=aW hm;rw[Z,hcs] at HL;have HB:Hid (∀ H,aF A (D.put (9+c.op.F) G) H->Grow A.L w A.L H->zk 177 #[R (A.bt s) 0,I c.op.F,zu 0] H.drew (Qk A H.drew s c.op.F ((D.put (9+c.op.F) G).bS s c.op.F ⟨0,0,false⟩))∧zS H b1 0 (A.bc s) 0∧zS H b4 0 (A.bt s) 0∧zT H (A.bc s) 1 c.op.F):=
  fun H q g=>⟨wu q.drew s t ht c.op.F 0 hx hkl,(B1.grow g).cell,(B4.grow g).cell,q.call hc 1 rfl⟩
 have HE : Hid (∀ H w2 A1 b, Grow A.L w A.L H -> aF A1 ((D.put (9 + c.op.F) G).bS s c.op.F ⟨0, 0, false⟩) w2 -> Grow A.L H A1.L w2 -> bU A A1 s -> A1.bx s c.op.F = b -> A1.aX = A.aX ->
     zV w2 b 0 0∧w2.frozen? (J b 0)=false∧zB w2 b 2 false∧w2.frozen? (J b 2)=false∧zV w2 b3 0 G∧
     ((w2.setCell (J b 0) (zu G)).setCell (J b 2) (.bool true)).cell? (J b0 0)=zs A.V 0∧((w2.setCell (J b 0) (zu G)).setCell (J b 2) (.bool true)).cell? (J b1 0)=zs (A.bc s) 0∧
     zk 113 #[R A.V 0,R (A.bc s) 0,.agg #[I 0,I 0,.slice none 0 0,I 0,I 0]] ((w2.setCell (J b 0) (zu G)).setCell (J b 2) (.bool true)) (bG A1 ((w2.setCell (J b 0) (zu G)).setCell (J b 2) (.bool true)) s ((D.put (9+c.op.F) G).bS s c.op.F ⟨G,0,true⟩,.fin {}))∧
     Grow A.L w A1.L ((w2.setCell (J b 0) (zu G)).setCell (J b 2) (.bool true))):=by
  intro H w2 A1 b g1 r2 g2 st hbx hvp;have ht1:(D.put (9+c.op.F) G).ai.getD s none=some t:=ht;have ht2:=uU ht1 c.op.F ⟨0,0,false⟩;have hx2:({t with cells:=(c.op.F,(⟨0,0,false⟩:lg))::t.cells,keys:=t.keys++[c.op.F]}:bL).cell c.op.F=some ⟨0,0,false⟩:=by simp[bL.cell,List.lookup]
  obtain⟨a0,a1,a2⟩:=r2.EF ht2 hx2;have z0:=r2.Ik ht2 hx2 0;have z2:=r2.Ik ht2 hx2 2;obtain⟨r3,g3⟩:=r2.tO ht2 hx2 ⟨G,0,false⟩ 0 (zu G) rfl;have e3:=sO ht1 c.op.F ⟨0,0,false⟩ ⟨G,0,false⟩ hx;rw[cK ht2] at e3;rw[e3] at r3;have ht3:=uU ht1 c.op.F ⟨G,0,false⟩;have hx3:({t with cells:=(c.op.F,(⟨G,0,false⟩:lg))::t.cells,keys:=t.keys++[c.op.F]}:bL).cell c.op.F=some ⟨G,0,false⟩:=by simp[bL.cell,List.lookup]
  obtain⟨r4,g4⟩:=r3.tO ht3 hx3 ⟨G,0,true⟩ 2 (.bool true) rfl;have e4:=sO ht1 c.op.F ⟨G,0,false⟩ ⟨G,0,true⟩ hx;rw[cK ht3] at e4;rw[e4] at r4;rw[hbx] at a0 a2 z0 z2 g3 r4 g4;have g5:=((g1.trans g2).trans g3).trans g4;have he:=jm r4 s {} 0 0 0 0 (.slice none 0 0) rfl (.inr ⟨rfl,rfl⟩);rw[st.V,st.bc] at he;exact⟨a0,z0,a2,z2,(B3.grow (g1.trans g2)).cell,(B0.grow g5).cell,(B1.grow g5).cell,he,g5⟩
 clear hR ht hc Y hx hkl aN B0 B1 B2 B3 B4 hm aU Z hcs;generalize (D.put (9+c.op.F) G).bS s c.op.F ⟨0,0,false⟩=aC at*;generalize (D.put (9+c.op.F) G).bS s c.op.F ⟨G,0,true⟩=aK at*;generalize c.op.F=F at*;go_enter Tryz.func191,Tryz.ntmps191;go_wp2_with fail;refine wp_region_still_tail 12 (by kernel_rfl) (by kernel_rfl) ?_;simp only[jZ,j6,kg,kr]
 repeat still_step
 refine wpStill_nil ?_;change wpList _ _ _ _ _ w.drew;generalize w.drew=wd at*;go_wp2_with (go_at_call 45;refine HL.out.mono ?_;rintro e H ⟨rfl,q1,q2⟩;have g1:=HG.out.trans q2;obtain⟨hf,d1,d4,d5⟩:=HB.out H q1 g1;have HQ:=U (zA hf (g1.trans (Grow.drew _ _)));clear q1 q2 g1 hf);refine wp_region_still_tail 6 (by kernel_rfl) (by kernel_rfl) ?_;simp only[jZ,j6,kg,kr]
 repeat still_step
 refine wpStill_nil ?_;change wpList _ _ _ _ _ H.drew;generalize H.drew=SG at*;go_wp2_with (first|(go_at_call 177;refine HQ.out.1.mono ?_;rintro e w2 ⟨b,rfl,A1,r2,g2,st,hbx,hvp⟩;obtain⟨a0,z0,a2,z2,d3,y0,y1,he,g5⟩:=HE.out _ w2 A1 b HQ.out.2 r2 g2 st hbx hvp;have HZ:=U (zA he (zA g5 st));clear r2 g2 st hbx hvp he g5)|(go_at_call 113;refine HZ.out.1.mono ?_;rintro e w3 ⟨A2,v,rfl,p1,p2,p3,p4⟩));go_ret;exact⟨A2,v,rfl,p1,HZ.out.2.1.trans p2,HZ.out.2.2.trans p3,p4⟩
theorem NZ (hR:aF A D w) (s:Nat) (t:bL) (ht:D.ai.getD s none=some t) (c:dY) (hc:D.calls.getD s none=some c) (G head:Nat) (Y:c.op.F<64) (hx:t.cell c.op.F=none) (hkl:t.keys.length<1000000) (aN:D.count<4000000000000000000) (b0 b1 b2 b3 b4:Nat)
 (B0:aP A.L w b0 (R A.V 0)) (B1:aP A.L w b1 (R (A.bc s) 0)) (B2:aP A.L w b2 (zu head)) (B3:aP A.L w b3 (zu G)) (B4:aP A.L w b4 (R (A.bt s) 0)):
 zk 191 #[R b0 0,R b1 0,R b2 0,R b3 0,R b4 0] w (lF A w s (D.run s (.dV G head))):=by
 by_cases hm:D.word (9+c.op.F)=head
 . exact C9 hR s t ht c hc G head Y hx hkl aN b0 b1 b2 b3 b4 B0 B1 B2 B3 B4 hm
 . exact AZ hR s t ht c hc G head Y hx hkl aN b0 b1 b2 b3 b4 B0 B1 B2 B3 B4 hm
theorem QF (hR:aF A D w) (s:Nat) (c:dY) (hc:D.calls.getD s none=some c) (G:Nat) (Y:c.op.F<64) (aN:D.count<4000000000000000000)
 (b0 b1 b2 b3 b4:Nat) (B0:aP A.L w b0 (R A.V 0)) (B1:aP A.L w b1 (R (A.bc s) 0)) (B2:aP A.L w b2 (zu G)) (B3:aP A.L w b3 (R (A.bt s) 0)) (B4:aP A.L w b4 (.pointer (some ⟨(kp A D s).x,0,none⟩))):
 zk 192 #[R b0 0,R b1 0,R b2 0,R b3 0,R b4 0] w (lF A w s (D.run s (.over G))):=by
 have c0:=B0.cell;have c1:=B1.cell;have e2:=hR.z2;have k1:w.cell? (J (A.bc s) 1)=zt c.op.F:=hR.call hc 1 rfl;have n1:IntKind.i64.wrap (9+(c.op.F:Int))=9+(c.op.F:Int):=by rw[je];omega
 have HL:Hid (∀ E,aF A D E->zk 42 #[R A.ba 0,I (9+(c.op.F:Int))] E (uL A E D.tick (zu (D.word (9+c.op.F):Int)))):=fun E r=>iP r (9+c.op.F) (9+(c.op.F:Int)) (by omega) (by rw[r.nw];omega) aN
 have nM:Hid (aF A D w.drew):=hR.drew;have x0:=World.new_ne w _ c0;have x1:=World.new_ne w _ c1;have x2:=World.new_ne w _ e2;have x3:=World.new_ne w _ k1;have HKK:Hid (∀ E,aF A D.tick E->Grow A.L w A.L E->zS E b0 0 A.V 0∧zS E b1 0 (A.bc s) 0∧zS E A.V 2 A.ba 0∧zT E (A.bc s) 1 c.op.F):=fun E r g=>⟨(B0.grow g).cell,(B1.grow g).cell,r.bT 2 rfl,r.call hc 1 rfl⟩
 have Ff:Hid (Fix A.L (w.drew.alloc (.cells #[zu 0] 25)) w.heap.size (.cells #[zu 0] 25)):=fA hR.drew.mem.fresh _ rfl;have hl0:A.L w.heap.size=none:=hR.mem.fresh _ (zr _);have uS:Hid (∀ E,aF A D.tick E->Grow A.L w A.L E->(E.setCell (J w.heap.size 0) (zu (D.word (9+c.op.F):Int))).cell? (J b0 0)=zs A.V 0∧(E.setCell (J w.heap.size 0) (zu (D.word (9+c.op.F):Int))).cell? (J b1 0)=zs (A.bc s) 0∧(E.setCell (J w.heap.size 0) (zu (D.word (9+c.op.F):Int))).cell? (J A.V 2)=zs A.ba 0∧(E.setCell (J w.heap.size 0) (zu (D.word (9+c.op.F):Int))).cell? (J (A.bc s) 1)=zt c.op.F):=fun E r g=>by
  obtain⟨r',g'⟩:=hR.nZ r g rfl rfl (a:=(J w.heap.size 0)) (zr _) hl0 (zu (D.word (9+c.op.F):Int));exact HKK.out _ r' g'
 have aU:D.run s (.over G)=(D.tick,some (.iB G (D.word (9+c.op.F)))):=by simp only[St.run,bC hc]
 rw[aU];have HG:=zG A.L w;have HB:=U (zA B0 (zA B1 (zA B2 (zA B3 B4))));have IK:Hid (∀ E,aF A D.tick E->Grow A.L w A.L E->aF A D.tick (E.setCell (J w.heap.size 0) (zu (D.word (9+c.op.F):Int)))∧Grow A.L w A.L (E.setCell (J w.heap.size 0) (zu (D.word (9+c.op.F):Int)))):=fun E r g=>hR.nZ r g rfl rfl (a:=(J w.heap.size 0)) (zr _) hl0 (zu (D.word (9+c.op.F):Int))
 clear hl0;clear hR hc aN B0 B1 B2 B3 B4 aU Y;generalize D.word (9+c.op.F)=hd at*;generalize c.op.F=F at*;go_enter Tryz.func192,Tryz.ntmps192;go_wp2_with fail
 go_region_held3 (fun E=>zS E b0 0 A.V 0∧zS E b1 0 (A.bc s) 0∧zS E A.V 2 A.ba 0∧zT E (A.bc s) 1 F)
  (first|exact⟨c0,c1,e2,k1⟩|assumption|go_keep|exact HKK.out _ (by assumption) (by assumption)|exact HKK.out _ (aF.alloc (by assumption) _) (Grow.trans (by assumption) (Grow.alloc _ _ _))|exact uS.out _ (by assumption) (by assumption))
  (first|(go_at_call 42;refine (HL.out _ nM.out).mono ?_;rintro e H ⟨rfl,q1,q2⟩;have q4:=HG.out.trans q2)|(go_at_call 42;refine (HL.out _ (nM.out.alloc _)).mono ?_;rintro e H ⟨rfl,q1,q2⟩;have q4:=(HG.out.trans (Grow.alloc _ _ _)).trans q2;have fx:=Ff.out.grow q2;have nb:=fx.cell 0 (v:=zu 0) rfl;have nz:=fx.frozen 0;have FX:=U fx;clear fx))
 . go_wp2_with fail
   go_ret;obtain⟨r3,g3,f0⟩:=dz q1 #[zu hd] 25;have g:=q4.trans g3;obtain⟨B0,B1,B2,B3,B4⟩:=HB.out;exact⟨A,_,rfl,r3,g,bU.refl _ _,_,_,_,_,_,_,rfl,B0.grow g,B2.grow g,f0.box,B1.grow g,B3.grow g,B4.grow g⟩
 . go_wp2_with fail
   go_ret;obtain⟨r3,g⟩:=IK.out _ q1 q4;obtain⟨B0,B1,B2,B3,B4⟩:=HB.out;exact⟨A,_,rfl,r3,g,bU.refl _ _,_,_,_,_,_,_,rfl,B0.grow g,B2.grow g,(FX.out.vI _).box,B1.grow g,B3.grow g,B4.grow g⟩
theorem IL (w:World) (l:List Nat) (v:Value) (x:Nat) (ho:w.ownsRow 0 3 1 v l.length (l.map i64)) (hl:l.length<1000000):
 zk 234 #[v,I x] w fun e E=>(∃ r:Int,e=.returned (I r)∧(0<=r↔x∈l))∧w=E:=by
 obtain⟨av,jB,hv,_⟩:=Ow.bO ho;have hat:∀ k (Y:k<l.length),∃ g,av=za g 0∧zT w g k (l[k]:Int):=by
  intro k Y;obtain⟨g,cap,e,hc⟩:=lG ho (j:=k) (u:=I (l[k]:Int)) (by simp[Y]);rw[hv] at e;simp only[Value.slice.injEq] at e;exact⟨g,e.1,hc⟩
 subst hv;have HAT:=U hat;have Yo:=U hl;clear hat ho hl;go_enter Tryz.func234,Tryz.ntmps234;go_wp2
 go_loop [8] (fun i=>∃ k:Nat,k<=l.length∧i=I k∧x ∉ l.take k) (fun i=>l.length - (intOf i).toNat)
 case atStart=>exact⟨0,zz _,rfl,by simp⟩
 case round=>
  obtain⟨k,Y,rfl,hnot⟩:=hrel
  by_cases hlt:k<l.length
  . obtain⟨g,rfl,hc⟩:=HAT.out k hlt
    have ht:l.take (k+1)=l.take k++[l[k]]:=by rw[List.take_succ_eq_append_getElem hlt]
    have hmem:l[k]∈l:=List.getElem_mem hlt;have HT:=U (zA ht (zA hnot hmem));have b1:(k:Int)<(l.length:Int):=by omega
    have b0:(0:Int)<=(k:Int):=by omega
    have n1:IntKind.i64.wrap ((k:Int)+1)=(k:Int)+1:=by have:=Yo.out;rw[je];omega
    have Xm:=U hlt;clear ht hnot Y hmem;generalize l[k]=y at*
    by_cases hy:x=y
    . have HY:=U hy
      obtain⟨fa1,fa2,fa3,fa4,fa5⟩:=rT (x:=x) (c:=y) (ci:=(y:Int)) (by omega);clear hy;go_wp2;go_ret;exact⟨⟨_,rfl,by constructor<;>intro _<;>first|(rw[HY.out];exact HT.out.2.2)|omega⟩,rfl⟩
    . have HY:=U hy
      obtain⟨fa1,fa2,fa3,fa4,fa5⟩:=qE (x:=x) (c:=y) (ci:=(y:Int)) (by omega);clear hy;go_wp2
      go_round
      case rel=>exact⟨k+1,Xm.out,by first|rfl|go_num,by rw[HT.out.1];intro h;rcases List.mem_append.1 h with h|h;exact HT.out.2.1 h;exact HY.out (List.mem_singleton.1 h)⟩
      case measure=>have:=Xm.out;simp[intOf];omega
  . have hx:x ∉ l:=by rw[List.take_of_length_le (by omega)] at hnot;exact hnot
    have HX:=U hx;obtain rfl:k=l.length:=by omega
    clear hlt hnot Y hx;go_wp2;go_ret;exact⟨⟨_,rfl,by constructor;intro h;exact absurd h (by decide);intro h;exact absurd h HX.out⟩,rfl⟩
theorem Ba (w:World) (l:List Nat) (v:Value) (x:Nat) (ho:w.ownsRow 0 3 1 v l.length (l.map i64)) (hl:l.length<1000000):
 zk 233 #[v,I x] w fun e E=>e=.returned (.bool (decide (x∈l)))∧w=E:=by
 have HI:=U (IL w l v x ho hl);clear ho hl;go_enter Tryz.func233,Tryz.ntmps233;go_wp2_with (go_at_call 234;refine HI.out.mono ?_;rintro e E ⟨⟨r,rfl,hr⟩,rfl⟩);go_ret;refine⟨?_,rfl⟩;have e:decide ((0:Int)<=r)=decide (x∈l):=by rw[decide_eq_decide];exact hr
 first|(rw[<-e];rfl)|(simp[hr];done)|(rw[show decide (r≥0)=decide (x∈l) from e])
theorem Does.QG {A:az} {w H:World} {s:Nat} {aC aK:St} {v:Value} {e:Ending} {E:World} {A1:az} (g1:Grow A.L w A1.L H) (s1:bU A A1 s) (b1:A1.bx=A.bx) (p1:A1.aX=A.aX) (h:Does A1 H s aK v e E):Does A w s aK v e E:=
 let ⟨e1,A2,r,g,st,bx,vp⟩:=h;⟨e1,A2,r,g1.trans g,s1.trans st,bx.trans b1,vp.trans p1⟩
theorem Da (hR:aF A D w) (s:Nat) (t:bL) (ht:D.ai.getD s none=some t) (tq:Nat) (hto:tq<=65535) (hn:t.aR.length<1000000) (htl:D.aQ.length<1000000):
 zk 224 #[R A.V 0,R (A.bt s) 0,I tq] w (Does A w s (D.bind s tq) (.tuple #[])):=by
 have c9:w.cell? (J (A.bt s) 9)=some (A.eQ s):=hR.fI ht 9 rfl;have z9:=hR.vP ht 9;have hown0:=hR.mem.all (.aR s);rw[mP ht] at hown0;obtain⟨av,jB,hv,_⟩:=Ow.bO hown0.1;have HC:=U (Ba w t.aR _ tq hown0.1 hn)
 by_cases hm:tq∈t.aR
 . have hst:D.bind s tq=D:=by unfold St.bind;rw[cK ht,aW hm]
   rw[hst];have hd:decide (tq∈t.aR)=true:=by simpa using hm
   rw[hd,hv] at HC;rw[hv] at c9;have HR:=U hR;clear hR ht hn htl hm hst hd hown0 hto hv;generalize t.aR.length=n at*;go_enter Tryz.func224,Tryz.ntmps224;go_wp2_with (go_at_call 233;refine HC.out.mono ?_;rintro e E ⟨rfl,rfl⟩)
   go_end0
   exact⟨rfl,A,HR.out,Grow.refl _ _,bU.refl _ _,rfl,rfl⟩
 . have hd:decide (tq∈t.aR)=false:=by simpa using hm
   rw[hd,hv] at HC;have hst:D.bind s tq=(D.bM s {t with aR:=t.aR++[tq]}).event {kind:=4,t:=t.id,n:=tq}:=by unfold St.bind;rw[cK ht,bu hm]
   rw[hst];have hA:=hR.alloc (.cells #[I tq] 3);have aY:=hA.mem.all (.aR s);rw[mP ht] at aY;have ho:(w.alloc (.cells #[I tq] 3)).ownsRow 0 3 1 (A.eQ s) t.aR.length (t.aR.map i64):=aY.1;have n1:IntKind.u64.wrap (tq:Int)=(tq:Int):=by rw[IntKind.wrap_u64];omega
   have FN : Hid (∀ v' w2, w2.ownsRow 0 3 1 v' (t.aR.length + 1) (t.aR.map i64 ++ [I (tq : Int)]) -> (w.alloc (.cells #[I (tq : Int)] 3)).grownBy w2 (A.eQ s).ownBlock -> (v'.ownBlock = (A.eQ s).ownBlock ∨ ∀ g, v'.ownBlock = some g -> (w.alloc (.cells #[I (tq : Int)] 3)).heap.size <= g) ->
       (w2.setCell (J (A.bt s) 9) v').cell? (J (A.bt s) 0)=zt t.id∧zk 50 #[R A.V 0,.agg #[I 4,I t.id,zu tq,I 0,I 0,I 0,I 0,I 0,I 0,.slice none 0 0,I 0,I 0]] (w2.setCell (J (A.bt s) 9) v') (Does A w s ((D.bM s {t with aR:=t.aR++[tq]}).event {kind:=4,t:=t.id,n:=tq}) (.tuple #[]))∧w2.cell? (J (A.bt s) 9)=some (A.eQ s)∧w2.frozen? (J (A.bt s) 9)=false):=by
    intro v' w2 q1 q2 q3;obtain⟨k1,k2,k3,k4⟩:=hA.M0 ht (t.aR++[tq]) v' q2 (by simpa using q1) q3;have ht2:(D.bM s {t with aR:=t.aR++[tq]}).ai.getD s none=some {t with aR:=t.aR++[tq]}:=by rw[dB (dA ht),aW rfl]
    refine⟨k1.fI ht2 0 rfl,?_,k3,k4⟩;have he:=mU k1 s {kind:=4,t:=t.id,n:=tq} 4 t.id tq 0 0 0 0 0 0 0 0 none 0 0 rfl (lC.nil _ _) htl;refine he.mono fun e E h=>?_
    exact Does.QG (aC:=D) ((Grow.alloc A.L w _).trans k2) ⟨rfl,rfl,rfl,rfl,rfl,rfl,rfl,rfl,rfl,rfl,rfl,fun _ _=>rfl,fun _ _=>rfl⟩ rfl rfl h
   rw[hv] at c9 ho FN;have HO:=U ho;clear hR ht htl hm hst hd hown0 hto hv hA aY ho;generalize hn':t.aR.length=n at*;have HN:=U hn;clear hn hn';obtain⟨ii,hii,hz0,hz1,hz2⟩:=info_parts Cs;go_enter Tryz.func224,Tryz.ntmps224;go_wp2_with (first|(go_at_call 233;refine HC.out.mono ?_;rintro e E ⟨rfl,rfl⟩)|(refine Ow.dZ _ rfl (.tmp 17) (.tmp 19) 36 rfl 0 _ ii _ 1 8 Tryz.underlying36 hii hz0 hz1 hz2 rfl (by decide) (.slice av n jB) n (t.aR.map i64) rfl HO.out (J w.heap.size 0) 1 1 (by omega) [I tq] rfl rfl (by intro j' u hu;exact Ow.iC _ [I tq] _ _ rfl j' u hu) (by intro u hu;obtain rfl:=List.mem_singleton.1 hu;rfl) (by have:=HN.out;unfold maxLen;omega) (by have:=HN.out;omega) (zz _) ?_;intro v' w4 q1 q2 q3;obtain⟨k1,k2,k3,k4⟩:=FN.out v' w4 q1 q2 q3;obtain⟨a4,cap4,rfl,_⟩:=Ow.bO q1;have K1:=U k2;clear k2 q1 q2 q3)|(go_at_call 50;refine K1.out.mono ?_;rintro e w2 hd2;obtain⟨rfl,hd3⟩:=id hd2))
   go_end0
   exact⟨rfl,hd3⟩
end Go.Proofs.YthicolbbmjfkfaaGreat.Em
