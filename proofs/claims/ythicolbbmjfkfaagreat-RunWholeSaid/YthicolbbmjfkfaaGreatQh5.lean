import Derived.Test.YthicolbbmjfkfaaGreatQh3
set_option linter.unusedVariables false
set_option linter.unusedSimpArgs false
set_option maxRecDepth 100000
set_option maxHeartbeats 1600000
namespace Go.Proofs.YthicolbbmjfkfaaGreat.Em
open Go.ChangeShapes Go.WideShapes Go.ChangeAt Go.RowKit En
structure VL (D:St) (l:Nat):Prop where
 lo:1<=l % 131072
 hi:l % 131072<=D.aC
 u:l<18446744073709551616
theorem iw {D:St} {l:Nat} (h:VL D l):aj l<D.aC:=by have:=h.lo;have:=h.hi;unfold aj;omega
theorem Oq {A:au} {D:St} {w:World} (hR:aD A D w) (s:Nat) (t:bB) (ht:D.ag.getD s none=some t) (E F b0 b1 b2 b3:Nat)
 (B0:aK A.L w b0 (R (A.bt s) 0)) (B1:aK A.L w b1 (I E)) (B2:aK A.L w b2 (R A.Y 0)) (B3:aK A.L w b3 (R (A.bc s) 0))
 (at_:Nat) (hl:F=0∨VL D F) (hn:t.reads.length<1000000):
 zk 115 #[zu F,R b0 0,R b1 0,R b2 0,R b3 0] w (aZ A w s (D.thn s ⟨E,at_,.get⟩ F)):=by
 have c0:=B0.cell;have c1:=B1.cell;have c2:=B2.cell;have c3:=B3.cell
 by_cases h0:F=0
 . have hr:=mD hR s t ht E F false hn
   have e0:(F !=0)=false:=by simpa using h0
   have e1:D.thn s ⟨E,at_,.get⟩ F=(D.read s E F false,.fin {e:=11}):=by simp only[St.thn,e0,aV h0]
   rw[e1];have d1:((F:Int)==0)=true:=by simpa using h0
   have d2:((F:Int) !=0)=false:=by simpa using h0
   have d3:((F:Int)=0)=True:=by simpa using h0
   have HR:=U hr;have HB:=U (zA B2 B3);clear hR ht hl hn hr e1 e0 h0 B0 B1 B2 B3;go_enter Tryz.func115,Tryz.ntmps115;go_wp2_with (first|(go_at_call 116;refine HR.out.mono ?_;rintro e H ⟨rfl,A1,q1,q2,q3,q4,q5⟩;have c2:=(HB.out.1.grow q2).cell;have c3:=(HB.out.2.grow q2).cell;have HE:=U (iE q1 s {e:=11} 11 0 0 0 (.slice none 0 0) rfl (.inr ⟨rfl,rfl⟩));rw[q3.Y,q3.bc] at HE;have HQ:=U (zA q2 q3);clear q1 q2 q3 q4 q5)|(go_at_call 113;refine HE.out.mono ?_;rintro e w2 ⟨A2,v,rfl,p1,p2,p3,p4⟩));go_ret;exact⟨A2,v,rfl,p1,HQ.out.1.trans p2,HQ.out.2.trans p3,p4⟩
 . have hv:=hl.resolve_left h0
   have hr:=mD hR s t ht E F true hn;have e0:(F !=0)=true:=by simpa using h0
   have e1:D.thn s ⟨E,at_,.get⟩ F=(D.read s E F true,.fin {value:=D.valueOf F}):=by
    simp only[St.thn,e0,aX h0];rfl
   rw[e1];have d1:((F:Int)==0)=false:=by simpa using h0
   have d2:((F:Int) !=0)=true:=by simpa using h0
   have d3:((F:Int)=0)=False:=by simpa using h0
   have HR:=U hr;have HB:=U (zA B2 (zA B3 hv));have HT:=U ht;have H0:=U hR.sl;clear hR ht hl hn hr e1 B0 B1 B2 B3 hv e0 h0;go_enter Tryz.func115,Tryz.ntmps115;go_wp2_with (go_at_call 116;refine HR.out.mono ?_;rintro e H ⟨rfl,A1,q1,q2,q3,q4,q5⟩);obtain⟨B2,B3,hv⟩:=HB.out;have c2:=(B2.grow q2).cell;have c3:=(B3.grow q2).cell;have hd:=(kZ q1.drew F hv.lo hv.hi hv.u).mono fun e G h=>(⟨h.1,h.2.symm⟩:_∧G=H.drew)
   have hval:=(q1.drew.val (show aj F<(D.read s E F true).aC from iw (D:=D) hv)).2;have he:=iE q1.drew s {value:=D.valueOf F} 0 (D.valueOf F:Int) 0 0 (.slice none 0 0) rfl (.inr ⟨rfl,rfl⟩);rw[q3.Y,q3.bc] at he;rw[q3.Y] at hd;have HE:=U he;have HD:=U hd;have HQ:=U (zA q2 q3);have e3:(((D.read s E F true).values.getD (aj F) (0,0)).2:Int)=(D.valueOf F:Int):=rfl;rw[e3] at hval;clear he q1 q2 q3 q4 q5 B2 B3 hd hv e3;generalize A1.bv=bv at*;go_wp2_with fail;refine wp_region_still_tail 9 (by kernel_rfl) (by kernel_rfl) ?_;simp only[jk,jl,jm,jo]
   repeat still_step
   still_call HD.out
   repeat still_step
   refine wpStill_nil ?_;change wpList _ _ _ _ _ H.drew;have HG:Hid (Grow A1.L H A1.L H.drew):=Grow.drew _ _;generalize H.drew=w3 at*;go_wp2_with (go_at_call 113;refine HE.out.mono ?_;rintro e w2 ⟨A2,v,rfl,p1,p2,p3,p4⟩);go_ret;exact⟨A2,v,rfl,p1,(HQ.out.1.trans HG.out).trans p2,HQ.out.2.trans p3,p4⟩
variable {A:au} {D:St} {w:World}
theorem Jh (hR:aD A D w) (s:Nat):
 zk 131 #[R A.Y 0,R (A.bt s) 0,R (A.bc s) 0,zu 0] w (aZ A w s (D,.fresh 0)):=wJ hR s 0
theorem Gg (hR:aD A D w) (s:Nat) (t:bB) (ht:D.ag.getD s none=some t) (c:dF) (hc:D.calls.getD s none=some c) (E F b0 b1 b2 b3:Nat) (V:c.op.E=E)
 (B0:aK A.L w b0 (R (A.bc s) 0)) (B1:aK A.L w b1 (R (A.bt s) 0)) (B2:aK A.L w b2 (I E)) (B3:aK A.L w b3 (R A.Y 0))
 (at_:Nat) (hn:t.reads.length<1000000):
 zk 130 #[zu F,R b0 0,R b1 0,R b2 0,R b3 0] w (aZ A w s (D.thn s ⟨E,at_,.change⟩ F)):=by
 have c0:=B0.cell;have c1:=B1.cell;have c2:=B2.cell;have c3:=B3.cell;have k0:w.cell? (J (A.bc s) 0)=zt c.op.kind:=hR.call hc 0 rfl;have hcg:=aU hc;have hr:=mD hR s t ht E F false hn;have HR:=U hr;have HB:=U (zA B0 (zA B1 (zA B2 B3)));have HX:=U hR;have e0:D.thn s ⟨E,at_,.change⟩ F=if F≠0∧c.op.kind=2 then (D.read s E F false,.fin {e:=12}) else if F=0∧c.op.kind≠2 then (D.read s E F false,.fin {e:=11}) else if F=0 then (D,.fresh 0) else (D,.own F):=by
  simp only[St.thn,hcg,V]
 rw[e0];clear e0 hR ht hn hr B0 B1 B2 B3 hc hcg V;generalize c.op.kind=kd at*
 by_cases h0:F=0
 . by_cases h2:kd=2
   . rw[aX (by omega),aX (by omega),aV h0]
     have d1:((F:Int)==0)=true:=by simpa using h0
     have d2:((F:Int) !=0)=false:=by simpa using h0
     have d3:((F:Int)=0)=True:=by simpa using h0
     have f1:((kd:Int)==2)=true:=by simp;omega
     have f2:((kd:Int) !=2)=false:=by simp;omega
     have f3:((kd:Int)=2)=True:=by simp;omega
     clear h0 h2;go_enter Tryz.func130,Tryz.ntmps130;go_wp2_with (go_at_call 131;refine (Jh HX.out s).mono ?_;rintro e w2 ⟨A2,v,rfl,p1,p2,p3,p4⟩);go_ret;exact⟨A2,v,rfl,p1,p2,p3,p4⟩
   . rw[aX (by omega),aV (by omega)]
     have d1:((F:Int)==0)=true:=by simpa using h0
     have d2:((F:Int) !=0)=false:=by simpa using h0
     have d3:((F:Int)=0)=True:=by simpa using h0
     have f1:((kd:Int)==2)=false:=by simp;omega
     have f2:((kd:Int) !=2)=true:=by simp;omega
     have f3:((kd:Int)=2)=False:=by simp;omega
     clear h0 h2;go_enter Tryz.func130,Tryz.ntmps130;go_wp2_with (first|(go_at_call 116;refine HR.out.mono ?_;rintro e H ⟨rfl,A1,q1,q2,q3,q4,q5⟩;have c0:=(HB.out.1.grow q2).cell;have c3:=(HB.out.2.2.2.grow q2).cell;have HE:=U (iE q1 s {e:=11} 11 0 0 0 (.slice none 0 0) rfl (.inr ⟨rfl,rfl⟩));rw[q3.Y,q3.bc] at HE;have HQ:=U (zA q2 q3);clear q1 q2 q3 q4 q5)|(go_at_call 113;refine HE.out.mono ?_;rintro e w2 ⟨A2,v,rfl,p1,p2,p3,p4⟩));go_ret;exact⟨A2,v,rfl,p1,HQ.out.1.trans p2,HQ.out.2.trans p3,p4⟩
 . by_cases h2:kd=2
   . rw[aV (by omega)]
     have d1:((F:Int)==0)=false:=by simpa using h0
     have d2:((F:Int) !=0)=true:=by simpa using h0
     have d3:((F:Int)=0)=False:=by simpa using h0
     have f1:((kd:Int)==2)=true:=by simp;omega
     have f2:((kd:Int) !=2)=false:=by simp;omega
     have f3:((kd:Int)=2)=True:=by simp;omega
     clear h0 h2;go_enter Tryz.func130,Tryz.ntmps130;go_wp2_with (first|(go_at_call 116;refine HR.out.mono ?_;rintro e H ⟨rfl,A1,q1,q2,q3,q4,q5⟩;have c0:=(HB.out.1.grow q2).cell;have c3:=(HB.out.2.2.2.grow q2).cell;have HE:=U (iE q1 s {e:=12} 12 0 0 0 (.slice none 0 0) rfl (.inr ⟨rfl,rfl⟩));rw[q3.Y,q3.bc] at HE;have HQ:=U (zA q2 q3);clear q1 q2 q3 q4 q5)|(go_at_call 113;refine HE.out.mono ?_;rintro e w2 ⟨A2,v,rfl,p1,p2,p3,p4⟩));go_ret;exact⟨A2,v,rfl,p1,HQ.out.1.trans p2,HQ.out.2.trans p3,p4⟩
   . rw[aX (by omega),aX (by omega),aX h0]
     have d1:((F:Int)==0)=false:=by simpa using h0
     have d2:((F:Int) !=0)=true:=by simpa using h0
     have d3:((F:Int)=0)=False:=by simpa using h0
     have f1:((kd:Int)==2)=false:=by simp;omega
     have f2:((kd:Int) !=2)=true:=by simp;omega
     have f3:((kd:Int)=2)=False:=by simp;omega
     clear h0 h2;go_enter Tryz.func130,Tryz.ntmps130;go_wp2_with (go_at_call 132;refine (Dw HX.out s F).mono ?_;rintro e w2 ⟨A2,v,rfl,p1,p2,p3,p4⟩);go_ret;exact⟨A2,v,rfl,p1,p2,p3,p4⟩
theorem gF (l:Nat) (k:Int) (n:Nat) (V:(n:Int)=k) (h1:1<=l % 131072) (h2:l % 131072<=256) (hl:l<18446744073709551616) (hn:n<=2) (w:World):
 zk 85 #[zu l,I k] w fun e G=>e=.returned (I ((af l n:Nat):Int))∧w=G:=by subst V;exact zI l n h1 h2 hl hn w
theorem fI (hR:aD A D w) {l k:Nat} (h1:1<=l % 131072) (h2:l % 131072<=D.aC) (V:k<=2):af l k<D.words.length:=by rw[hR.nw];unfold af aj;omega
theorem Ji (hR:aD A D w) (s:Nat) (t:bB) (ht:D.ag.getD s none=some t) (hu:dw) (F b0 b1:Nat) (B0:fT (kp A D s) A.L w b0 hu) (B1:aK A.L w b1 (zu F))
 (h1:1<=F % 131072) (h2:F % 131072<=D.aC) (hl:F<18446744073709551616) (hx:D.word (af F 0)<18446744073709551616) (hc:D.count<4000000000000000000):
 zk 182 #[R b0 0,R b1 0] w (jO A w s (D.run s (.visit hu F))):=by
 have hsl:=hR.sl;obtain⟨bh,X0,vt,TT,fh,hth⟩:=B0;have c0:=X0.cell;have c1:=B1.cell;have h0:w.cell? (J bh 0)=zs A.Y 0:=fh.cell 0 rfl;have e2:=hR.z2;have HK:Hid (∀ G,Kp A w G->zS G b0 0 bh 0∧zV G b1 0 F∧zS G bh 0 A.Y 0∧zS G A.Y 2 A.ba 0):=by
  obtain⟨_,x0⟩:=X0;obtain⟨_,x1⟩:=B1;exact fun G k=>⟨k.fix _ _ _ x0.1 c0,k.fix _ _ _ x1.1 c1,k.fix _ _ _ fh.1 h0,k.ea⟩
 have HS:=U (gF F 0 0 rfl h1 (by omega) hl (by omega));have HL:=U (gM hR.drew (af F 0) (fI hR h1 h2 (by omega)) hc);have HG:=zG A.L w;have hh0:dE (kp A D s) A.L w bh hu:=⟨vt,TT,fh,hth⟩
 have HB:Hid (∀ H,aD A D.tick H->Grow A.L w A.L H->zk 183 #[R bh 0,zu F,zu (D.word (af F 0):Int)] H (aZ A H s (D.tick,D.jb s hu F (D.word (af F 0))))):=
  fun H r g=>Ew r s t ht bh hu (hh0.grow g) F _ hx
 clear hR ht X0 B1 fh hth h1 h2 hl hx hc hsl hh0;go_enter Tryz.func182,Tryz.ntmps182;go_wp2_with fail
 go_region_held3 (fun G=>zS G b0 0 bh 0∧zV G b1 0 F∧zS G bh 0 A.Y 0∧zS G A.Y 2 A.ba 0)
  (first|exact⟨c0,c1,h0,e2⟩|assumption|exact HK.out _ (Kp.of (by assumption) (by assumption) (by assumption)))
  (first|(go_at_call 85;refine (HS.out _).mono ?_;rintro e G ⟨rfl,rfl⟩)|(go_at_call 42;refine HL.out.mono ?_;rintro e H ⟨rfl,q1,q2⟩;have q4:=HG.out.trans q2;have q3:=bL.refl A s;clear q2)|(go_at_call 183;refine (HB.out _ (by assumption) (by assumption)).mono ?_;rintro e w2 ⟨A',v,rfl,p1,p2,p3,p4⟩;have p5:=(‹Grow A.L w A.L _›).trans p2))
 go_wp2_with fail;go_ret;exact⟨A',_,rfl,p1,p5,p3,p4⟩
theorem flip {P:Program} {f:FuncId} {args:Array Value} {w:World} {v:Value} (h:Calls P f args w fun e G=>e=.returned v∧w=G):Calls P f args w fun e G=>e=.returned v∧G=w:=h.mono fun _ _ h=>⟨h.1,h.2.symm⟩
theorem pF (w:World):zk 127 #[] w fun e G=>e=.returned (zu ((ever:Nat):Int))∧G=w:=flip (Word.nW w)
theorem Jj (hR:aD A D w) (s:Nat) (t:bB) (ht:D.ag.getD s none=some t) (b0 b1 b2 b3 b4 b5:Nat) (x:Bool) (F head:Nat)
 (B0:aK A.L w b0 (R A.Y 0)) (B1:aK A.L w b1 (zu F)) (B2:aK A.L w b2 (R (A.bt s) 0)) (B3:aK A.L w b3 ((kp A D s).xo x)) (B4:aK A.L w b4 (R (A.bc s) 0)) (B5:iZ A.L w b5 x head)
 (hc:D.count<4000000000000000000) (hv:VL D F) (h1:1<=t.id) (h2:t.id<=65535):
 zk 168 #[R b0 0,R b1 0,R b2 0,R b3 0,R b4 0,R b5 0] w (jO A w s (D.run s (.dX x F head))):=by
 have c0:=B0.cell;have c1:=B1.cell;have c2:=B2.cell;have c3:=B3.cell;have c4:=B4.cell;have e2:=hR.z2;have hsl:=hR.sl;have G0:Grow A.L w A.L w.drew:=Grow.drew _ _;have HS:=U (flip (gF F 0 0 rfl hv.lo (by have:=hv.hi;omega) hv.u (by omega) w.drew));have HM:=U (flip (og hR.drew s t ht h1 h2));have HL:=U (fC hR.drew (af F 0) (mine t) (fI hR hv.lo hv.hi (by omega)) hc);have aN:D.run s (.dX x F head)=(D.put (af F 0) (mine t),some (.dM x F head)):=by simp only[St.run,bQ ht]
 rw[aN];clear aN ht hv h1 h2;have HG:=U G0;have HB:=U ((zA B0 (zA B1 (zA B2 (zA B3 (zA B4 B5))))));clear hR hsl hc G0 B0 B1 B2 B3 B4 B5;go_enter Tryz.func168,Tryz.ntmps168;go_wp2_with fail;refine wp_region_still_tail 8 (by kernel_rfl) (by kernel_rfl) ?_;simp only[jk,jl,jm,jo]
 repeat still_step
 still_call HS.out
 repeat still_step
 still_call HM.out
 repeat still_step
 refine wpStill_nil ?_;change wpList _ _ _ _ _ w.drew;generalize w.drew=wd at*;go_wp2_with (go_at_call 47;refine HL.out.mono ?_;rintro e H ⟨rfl,q1,q2⟩);go_ret;obtain⟨B0,B1,B2,B3,B4,B5⟩:=HB.out;exact⟨A,_,rfl,q1,HG.out.trans q2,bL.refl _ _,_,_,_,_,_,_,rfl,B0.grow (HG.out.trans q2),B1.grow (HG.out.trans q2),B3.grow (HG.out.trans q2),B2.grow (HG.out.trans q2),B4.grow (HG.out.trans q2),B5.grow (HG.out.trans q2)⟩
theorem LJ (hR:aD A D w) (s:Nat) (t:bB) (ht:D.ag.getD s none=some t) (b0 b1 b2 b3 b4:Nat) (F head:Nat)
 (B0:aK A.L w b0 (R A.Y 0)) (B1:aK A.L w b1 (zu F)) (B2:aK A.L w b2 (zu head)) (B3:aK A.L w b3 (R (A.bc s) 0)) (B4:aK A.L w b4 (R (A.bt s) 0))
 (hc:D.count<4000000000000000000) (hv:VL D F):
 zk 190 #[R b0 0,R b1 0,R b2 0,R b3 0,R b4 0] w (jO A w s (D.run s (.push F head))):=by
 have c0:=B0.cell;have c1:=B1.cell;have c2:=B2.cell;have c3:=B3.cell;have c4:=B4.cell;have e2:=hR.z2;have hsl:=hR.sl;have G0:Grow A.L w A.L w.drew:=Grow.drew _ _;have HS:=U (flip (gF F 2 2 rfl hv.lo (by have:=hv.hi;omega) hv.u (by omega) w.drew));have HL:=U (fC hR.drew (af F 2) head (fI hR hv.lo hv.hi (by omega)) hc);have aN:D.run s (.push F head)=(D.put (af F 2) head,some (.dC F head)):=rfl;rw[aN];clear aN ht hv;have HG:=U G0;have HB:=U ((zA B0 (zA B1 (zA B2 (zA B3 B4)))));clear hR hsl hc G0 B0 B1 B2 B3 B4;go_enter Tryz.func190,Tryz.ntmps190;go_wp2_with fail;refine wp_region_still_tail 7 (by kernel_rfl) (by kernel_rfl) ?_;simp only[jk,jl,jm,jo]
 repeat still_step
 still_call HS.out
 repeat still_step
 refine wpStill_nil ?_;change wpList _ _ _ _ _ w.drew;generalize w.drew=wd at*;go_wp2_with (go_at_call 47;refine HL.out.mono ?_;rintro e H ⟨rfl,q1,q2⟩);go_ret;obtain⟨B0,B1,B2,B3,B4⟩:=HB.out;exact⟨A,_,rfl,q1,HG.out.trans q2,bL.refl _ _,_,_,_,_,_,rfl,B0.grow (HG.out.trans q2),B3.grow (HG.out.trans q2),B2.grow (HG.out.trans q2),B1.grow (HG.out.trans q2),B4.grow (HG.out.trans q2)⟩
theorem Jk (hR:aD A D w) (s:Nat) (t:bB) (ht:D.ag.getD s none=some t) (b0 b1 b2 b3 b4 b5:Nat) (F head:Nat)
 (B0:aK A.L w b0 (R A.Y 0)) (B1:aK A.L w b1 (zu F)) (B2:aK A.L w b2 (zu head)) (B3:aK A.L w b3 (R (A.bc s) 0)) (B4:aK A.L w b4 (R (A.bt s) 0)) (B5:aK A.L w b5 ((kp A D s).xo true))
 (hc:D.count<4000000000000000000) (hv:VL D F):
 zk 193 #[R b0 0,R b1 0,R b2 0,R b3 0,R b4 0,R b5 0] w (jO A w s (D.run s (.fU F head))):=by
 have c0:=B0.cell;have c1:=B1.cell;have c2:=B2.cell;have c3:=B3.cell;have c4:=B4.cell;have c5:=B5.cell;have e2:=hR.z2;have hsl:=hR.sl;have G0:Grow A.L w A.L w.drew:=Grow.drew _ _;have HS:=U (flip (gF F 2 2 rfl hv.lo (by have:=hv.hi;omega) hv.u (by omega) w.drew));have HL:=U (fC hR.drew (af F 2) head (fI hR hv.lo hv.hi (by omega)) hc);have aN:D.run s (.fU F head)=(D.put (af F 2) head,some (.dI F head)):=rfl;rw[aN];clear aN ht hv;have HG:=U G0;have HB:=U ((zA B0 (zA B1 (zA B2 (zA B3 (zA B4 B5))))));clear hR hsl hc G0 B0 B1 B2 B3 B4 B5;go_enter Tryz.func193,Tryz.ntmps193;go_wp2_with fail;refine wp_region_still_tail 7 (by kernel_rfl) (by kernel_rfl) ?_;simp only[jk,jl,jm,jo]
 repeat still_step
 still_call HS.out
 repeat still_step
 refine wpStill_nil ?_;change wpList _ _ _ _ _ w.drew;generalize w.drew=wd at*;go_wp2_with (go_at_call 47;refine HL.out.mono ?_;rintro e H ⟨rfl,q1,q2⟩);go_ret;obtain⟨B0,B1,B2,B3,B4,B5⟩:=HB.out;exact⟨A,_,rfl,q1,HG.out.trans q2,bL.refl _ _,_,_,_,_,_,_,rfl,B0.grow (HG.out.trans q2),B3.grow (HG.out.trans q2),B2.grow (HG.out.trans q2),B1.grow (HG.out.trans q2),B4.grow (HG.out.trans q2),B5.grow (HG.out.trans q2)⟩
end Go.Proofs.YthicolbbmjfkfaaGreat.Em
