import Derived.Test.YthicolbbmjfkfaaGreatQh14
import Derived.Test.YthicolbbmjfkfaaGreatQh13
import Derived.Test.YthicolbbmjfkfaaGreatQh11
set_option linter.unusedVariables false
set_option linter.unusedSimpArgs false
set_option maxRecDepth 100000
set_option maxHeartbeats 1600000
namespace Go.Proofs.YthicolbbmjfkfaaGreat.Em
open Go.ChangeShapes Go.WideShapes Go.ChangeAt Go.RowKit En
variable {A:au} {D:St} {w:World}
theorem Aw (hR:aD A D w) (s:Nat) (t:bB) (ht:D.ag.getD s none=some t) (c:dF) (hc:D.calls.getD s none=some c) (ax:Nat) (x:jr) (hx:t.cell c.op.E=some x) (hv:VL D x.own) (V:c.op.kind=4) (aQ:D.count<4000000000000000000) (b0 b1 b2 b3:Nat)
 (B0:aK A.L w b0 (R A.Y 0)) (B1:aK A.L w b1 (.pointer (some ⟨(kp A D s).x,0,none⟩))) (B2:aK A.L w b2 (zu ax)) (B3:aK A.L w b3 (R (A.bc s) 0)):
 zk 152 #[R b0 0,R b1 0,R b2 0,R b3 0] w (jO A w s (D.run s (.again ax))):=by
 have hpx:(kp A D s).x=A.bx s c.op.E:=by unfold kp;rw[aU hc]
 rw[hpx] at B1;have c0:=B0.cell;have c1:=B1.cell;have c2:=B2.cell;have hsl:=hR.sl;obtain⟨a0,_,_⟩:=hR.BS ht hx;have e2:=hR.z2;have hs1:zk 85 #[zu x.own,I 1] w.drew fun e G=>e=.returned (I ((af x.own 1:Nat):Int))∧G=w.drew:=flip (gF x.own 1 1 rfl hv.lo (by have:=hv.hi;omega) hv.u (by omega) w.drew)
 have HS:=U hs1;have HL:=U (fC hR.drew (af x.own 1) ax (fI hR hv.lo hv.hi (by omega)) aQ);have HG:=zG A.L w;have e1:(D.put (af x.own 1) ax).c s=c:=aU hc;have aN:D.run s (.again ax)=(((D.put (af x.own 1) ax).ed s c.op.E {x with there:=false}),some (.fin {})):=by
  have e0:D.c s=c:=aU hc;have ex:D.x s c.op.E=x:=by unfold St.x;rw[bQ ht,hx];rfl
  have e3:∀ y,((D.put (af x.own 1) ax).ed s c.op.E y).c s=c:=fun y=>aU hc
  have Z:(c.op.kind !=4)=false:=by simp[V]
  simp only[St.run,e0,ex,e1,Z,e3,if_true,if_false,Bool.false_eq_true]
 rw[aN];have ht1:(D.put (af x.own 1) ax).ag.getD s none=some t:=ht;have hc1:(D.put (af x.own 1) ax).calls.getD s none=some c:=hc;have Q7:VL (D.put (af x.own 1) ax) x.own:=⟨hv.lo,hv.hi,hv.u⟩
 have HB : Hid (∀ H, aD A (D.put (af x.own 1) ax) H -> Grow A.L w A.L H -> zS H b1 0 (A.bx s c.op.E) 0 ∧ zS H b3 0 (A.bc s) 0 ∧ zT H (A.bc s) 0 (c.op.kind : Int) ∧ zB H (A.bx s c.op.E) 2 x.there ∧ H.frozen? (J (A.bx s c.op.E) 2) = false ∧
     ∀ ws,(H.setCell (J (A.bx s c.op.E) 2) (.bool false)).drew=ws->aD A ((D.put (af x.own 1) ax).ed s c.op.E {x with there:=false}) ws∧Grow A.L w A.L ws∧zS ws b0 0 A.Y 0∧zS ws b1 0 (A.bx s c.op.E) 0∧zS ws b3 0 (A.bc s) 0∧zV ws (A.bx s c.op.E) 0 x.own∧zB ws (A.bx s c.op.E) 2 false∧zT ws (A.bc s) 3 c.op.value):=by
  intro H q g;obtain⟨_,_,a2⟩:=q.BS ht1 hx;refine⟨(B1.grow g).cell,(B3.grow g).cell,q.call hc1 0 rfl,a2,q.Es ht1 hx 2,?_⟩;rintro ws rfl;obtain⟨r3,g3⟩:=q.qY ht1 hx {x with there:=false} 2 (.bool false) rfl;have eS:(D.put (af x.own 1) ax).bq s {t with cells:=upd t.cells c.op.E {x with there:=false}}=((D.put (af x.own 1) ax).ed s c.op.E {x with there:=false}):=by unfold St.ed;rw[bQ ht1]
  rw[eS] at r3;have ht3:((D.put (af x.own 1) ax).ed s c.op.E {x with there:=false}).ag.getD s none=some {t with cells:=upd t.cells c.op.E {x with there:=false}}:=by rw[<-eS,cO (cz ht1),aV rfl]
  have hx3:({t with cells:=upd t.cells c.op.E {x with there:=false}}:bB).cell c.op.E=some {x with there:=false}:=yC _ _ _ _ hx;have hc3:((D.put (af x.own 1) ax).ed s c.op.E {x with there:=false}).calls.getD s none=some c:=hc;have r4:=r3.drew;have g4:=(g.trans g3).trans (Grow.drew _ _);obtain⟨y0,_,y2⟩:=r4.BS ht3 hx3;exact⟨r4,g4,(B0.grow g4).cell,(B1.grow g4).cell,(B3.grow g4).cell,y0,y2,r4.call hc3 3 rfl⟩
 have HV:Hid (∀ ws,aD A ((D.put (af x.own 1) ax).ed s c.op.E {x with there:=false}) ws->zk 113 #[R A.Y 0,R (A.bc s) 0,.agg #[I 0,I 0,.slice none 0 0,I 0,I 0]] ws (aZ A ws s (((D.put (af x.own 1) ax).ed s c.op.E {x with there:=false}),.fin {}))):=fun ws q=>iE q s {} 0 0 0 0 (.slice none 0 0) rfl (.inr ⟨rfl,rfl⟩)
 clear hR ht hc hx hv aQ B0 B1 B2 B3 aN hs1 e1 ht1 hc1 Q7 hpx hsl;generalize ((D.put (af x.own 1) ax).ed s c.op.E {x with there:=false})=Ux at*;generalize A.bx s c.op.E=kx at*;generalize af x.own 1=Q8 at*;generalize x.own=ow at*;generalize x.there=th at*;generalize c.op.kind=kd at*;generalize c.op.value=va at*;obtain⟨OU,OV,OW,OX,OY⟩:=qX (x:=kd) (c:=4) (ci:=4) (by omega);clear V;go_enter Tryz.func152,Tryz.ntmps152;go_wp2_with fail;refine wp_region_still_tail 10 (by kernel_rfl) (by kernel_rfl) ?_;simp only[jk,jl,jm,jo]
 repeat still_step
 still_call HS.out
 repeat still_step
 refine wpStill_nil ?_;change wpList _ _ _ _ _ w.drew;generalize w.drew=wd at*;go_wp2_with (go_at_call 47;refine HL.out.mono ?_;rintro e H ⟨rfl,q1,q2⟩;have g1:=HG.out.trans q2;obtain⟨d1,d3,k0,a2,z2,hz⟩:=HB.out H q1 g1;have HZ:=U hz;clear q1 q2 g1 hz)
 go_region
 generalize hws:World.drew _=ws;obtain⟨r2,g2,d0',d1',Uy,y0,y2,k3⟩:=HZ.out ws hws;have HQ:=U (zA r2 g2);clear r2 g2 hws d1 d3 k0 a2 z2;go_wp2_with (go_at_call 113;refine (HV.out _ HQ.out.1).mono ?_;rintro e w3 ⟨A2,v,rfl,p1,p2,p3,p4⟩);go_ret;exact⟨A2,v,rfl,p1,HQ.out.2.trans p2,p3,p4⟩
theorem Ay (hR:aD A D w) (s:Nat) (t:bB) (ht:D.ag.getD s none=some t) (c:dF) (hc:D.calls.getD s none=some c) (ax:Nat) (x:jr) (hx:t.cell c.op.E=some x) (hv:VL D x.own) (V:c.op.kind≠4) (aQ:D.count<4000000000000000000) (b0 b1 b2 b3:Nat)
 (B0:aK A.L w b0 (R A.Y 0)) (B1:aK A.L w b1 (.pointer (some ⟨(kp A D s).x,0,none⟩))) (B2:aK A.L w b2 (zu ax)) (B3:aK A.L w b3 (R (A.bc s) 0)):
 zk 152 #[R b0 0,R b1 0,R b2 0,R b3 0] w (jO A w s (D.run s (.again ax))):=by
 have hpx:(kp A D s).x=A.bx s c.op.E:=by unfold kp;rw[aU hc]
 rw[hpx] at B1;have c0:=B0.cell;have c1:=B1.cell;have c2:=B2.cell;have hsl:=hR.sl;obtain⟨a0,_,_⟩:=hR.BS ht hx;have e2:=hR.z2;have hs1:zk 85 #[zu x.own,I 1] w.drew fun e G=>e=.returned (I ((af x.own 1:Nat):Int))∧G=w.drew:=flip (gF x.own 1 1 rfl hv.lo (by have:=hv.hi;omega) hv.u (by omega) w.drew)
 have HS:=U hs1;have HL:=U (fC hR.drew (af x.own 1) ax (fI hR hv.lo hv.hi (by omega)) aQ);have HG:=zG A.L w;have e1:(D.put (af x.own 1) ax).c s=c:=aU hc;have aN:D.run s (.again ax)=(({((D.put (af x.own 1) ax).ed s c.op.E {x with there:=true}) with values:=((D.put (af x.own 1) ax).ed s c.op.E {x with there:=true}).values.set (aj x.own) ((((D.put (af x.own 1) ax).ed s c.op.E {x with there:=true}).values.getD (aj x.own) (0,0)).1,c.op.value)}:St),some (.fin {})):=by
  have e0:D.c s=c:=aU hc;have ex:D.x s c.op.E=x:=by unfold St.x;rw[bQ ht,hx];rfl
  have e3:∀ y,((D.put (af x.own 1) ax).ed s c.op.E y).c s=c:=fun y=>aU hc
  have Z:(c.op.kind !=4)=true:=by simp[V]
  simp only[St.run,e0,ex,e1,Z,e3,if_true,if_false,Bool.false_eq_true]
 rw[aN];have ht1:(D.put (af x.own 1) ax).ag.getD s none=some t:=ht;have hc1:(D.put (af x.own 1) ax).calls.getD s none=some c:=hc;have Q7:VL (D.put (af x.own 1) ax) x.own:=⟨hv.lo,hv.hi,hv.u⟩
 have HB : Hid (∀ H, aD A (D.put (af x.own 1) ax) H -> Grow A.L w A.L H -> zS H b1 0 (A.bx s c.op.E) 0 ∧ zS H b3 0 (A.bc s) 0 ∧ zT H (A.bc s) 0 (c.op.kind : Int) ∧ zB H (A.bx s c.op.E) 2 x.there ∧ H.frozen? (J (A.bx s c.op.E) 2) = false ∧
     ∀ ws,(H.setCell (J (A.bx s c.op.E) 2) (.bool true)).drew=ws->aD A ((D.put (af x.own 1) ax).ed s c.op.E {x with there:=true}) ws∧Grow A.L w A.L ws∧zS ws b0 0 A.Y 0∧zS ws b1 0 (A.bx s c.op.E) 0∧zS ws b3 0 (A.bc s) 0∧zV ws (A.bx s c.op.E) 0 x.own∧zB ws (A.bx s c.op.E) 2 true∧zT ws (A.bc s) 3 c.op.value):=by
  intro H q g;obtain⟨_,_,a2⟩:=q.BS ht1 hx;refine⟨(B1.grow g).cell,(B3.grow g).cell,q.call hc1 0 rfl,a2,q.Es ht1 hx 2,?_⟩;rintro ws rfl;obtain⟨r3,g3⟩:=q.qY ht1 hx {x with there:=true} 2 (.bool true) rfl;have eS:(D.put (af x.own 1) ax).bq s {t with cells:=upd t.cells c.op.E {x with there:=true}}=((D.put (af x.own 1) ax).ed s c.op.E {x with there:=true}):=by unfold St.ed;rw[bQ ht1]
  rw[eS] at r3;have ht3:((D.put (af x.own 1) ax).ed s c.op.E {x with there:=true}).ag.getD s none=some {t with cells:=upd t.cells c.op.E {x with there:=true}}:=by rw[<-eS,cO (cz ht1),aV rfl]
  have hx3:({t with cells:=upd t.cells c.op.E {x with there:=true}}:bB).cell c.op.E=some {x with there:=true}:=yC _ _ _ _ hx;have hc3:((D.put (af x.own 1) ax).ed s c.op.E {x with there:=true}).calls.getD s none=some c:=hc;have r4:=r3.drew;have g4:=(g.trans g3).trans (Grow.drew _ _);obtain⟨y0,_,y2⟩:=r4.BS ht3 hx3;exact⟨r4,g4,(B0.grow g4).cell,(B1.grow g4).cell,(B3.grow g4).cell,y0,y2,r4.call hc3 3 rfl⟩
 have HV : Hid (∀ ws, aD A ((D.put (af x.own 1) ax).ed s c.op.E { x with there := true }) ws -> Grow A.L w A.L ws -> zk 87 #[R A.Y 0, zu (x.own : Int)] ws.drew (fun e G => e = .returned (.pointer (some ⟨A.bv, 2 * aj x.own, none⟩)) ∧ G = ws.drew) ∧ ws.drew.cell? ⟨A.bv, 2 * aj x.own + 1, none⟩ = some (I ((((D.put (af x.own 1) ax).ed s c.op.E { x with there := true }).values.getD (aj x.own) (0, 0)).2 : Int)) ∧ ws.drew.frozen? ⟨A.bv, 2 * aj x.own + 1, none⟩ = false ∧
     ∀ wz,ws.drew.setCell ⟨A.bv,2*aj x.own+1,none⟩ (I c.op.value)=wz->zS wz b0 0 A.Y 0∧zS wz b3 0 (A.bc s) 0∧Grow A.L w A.L wz∧zk 113 #[R A.Y 0,R (A.bc s) 0,.agg #[I 0,I 0,.slice none 0 0,I 0,I 0]] wz (aZ A wz s (({((D.put (af x.own 1) ax).ed s c.op.E {x with there:=true}) with values:=((D.put (af x.own 1) ax).ed s c.op.E {x with there:=true}).values.set (aj x.own) ((((D.put (af x.own 1) ax).ed s c.op.E {x with there:=true}).values.getD (aj x.own) (0,0)).1,c.op.value)}:St),.fin {}))):=by
  intro ws q g;have hi:aj x.own<((D.put (af x.own 1) ax).ed s c.op.E {x with there:=true}).aC:=iw (D:=D) hv;refine⟨flip (kZ q.drew x.own hv.lo hv.hi hv.u),(q.drew.val hi).2,q.drew.Oi _,?_⟩;rintro wz rfl;obtain⟨r5,g5⟩:=q.drew.Lx hi c.op.value;have g6:=(g.trans (Grow.drew _ _)).trans g5;exact⟨(B0.grow g6).cell,(B3.grow g6).cell,g6,iE r5 s {} 0 0 0 0 (.slice none 0 0) rfl (.inr ⟨rfl,rfl⟩)⟩
 clear hR ht hc hx hv aQ B0 B1 B2 B3 aN hs1 e1 ht1 hc1 Q7 hpx hsl;generalize ({((D.put (af x.own 1) ax).ed s c.op.E {x with there:=true}) with values:=((D.put (af x.own 1) ax).ed s c.op.E {x with there:=true}).values.set (aj x.own) ((((D.put (af x.own 1) ax).ed s c.op.E {x with there:=true}).values.getD (aj x.own) (0,0)).1,c.op.value)}:St)=Ux at*;generalize (((D.put (af x.own 1) ax).ed s c.op.E {x with there:=true}).values.getD (aj x.own) (0,0)).2=old at*;generalize hs2:((D.put (af x.own 1) ax).ed s c.op.E {x with there:=true})=az at*;clear hs2;generalize A.bx s c.op.E=kx at*;generalize af x.own 1=Q8 at*;generalize 2*aj x.own=iv at*;generalize x.own=ow at*;generalize x.there=th at*;generalize c.op.kind=kd at*;generalize c.op.value=va at*;obtain⟨OU,OV,OW,OX,OY⟩:=o9 (x:=kd) (c:=4) (ci:=4) (by omega);clear V;go_enter Tryz.func152,Tryz.ntmps152;go_wp2_with fail;refine wp_region_still_tail 10 (by kernel_rfl) (by kernel_rfl) ?_;simp only[jk,jl,jm,jo]
 repeat still_step
 still_call HS.out
 repeat still_step
 refine wpStill_nil ?_;change wpList _ _ _ _ _ w.drew;generalize w.drew=wd at*;go_wp2_with (go_at_call 47;refine HL.out.mono ?_;rintro e H ⟨rfl,q1,q2⟩;have g1:=HG.out.trans q2;obtain⟨d1,d3,k0,a2,z2,hz⟩:=HB.out H q1 g1;have HZ:=U hz;clear q1 q2 g1 hz)
 go_region
 generalize hws:World.drew _=ws;obtain⟨r2,g2,d0',d1',Uy,y0,y2,k3⟩:=HZ.out ws hws;have HQ:=U (zA r2 g2);clear r2 g2 hws d1 d3 k0 a2 z2;obtain⟨hd,v1,v2,hz⟩:=HV.out ws HQ.out.1 HQ.out.2;have HD:=U hd;have HY:=U hz;clear hd hz;go_wp2_with fail;refine wp_region_still_tail 13 (by kernel_rfl) (by kernel_rfl) ?_;simp only[jk,jl,jm,jo]
 repeat still_step
 still_call HD.out
 repeat still_step
 refine wpStill_nil ?_;change wpList _ _ _ _ _ ws.drew;generalize ws.drew=wd2 at*;obtain⟨x0,x3,gz,he⟩:=HY.out _ rfl;have HE:=U (zA he gz);clear he gz;go_wp2_with (go_at_call 113;refine HE.out.1.mono ?_;rintro e w3 ⟨A2,v,rfl,p1,p2,p3,p4⟩);go_ret;exact⟨A2,v,rfl,p1,HE.out.2.trans p2,p3,p4⟩
theorem get_none (hR:aD A D w) (s:Nat) (t:bB) (ht:D.ag.getD s none=some t) (c:dF) (hc:D.calls.getD s none=some c) (hx:t.cell c.op.E=none):
 zk 94 #[R A.Y 0,R (A.bt s) 0,R (A.bc s) 0] w (aZ A w s (D,.start ⟨c.op.E,t.aG,.get⟩)):=by
 obtain⟨r3,g3,_,_,_⟩:=iO hR #[R A.Y 0] 32 #[R (A.bt s) 0] 100 #[R (A.bc s) 0] 105;have k1:=r3.call hc 1 (v:=I c.op.E) rfl;obtain⟨r4,g4,f0,f1,f2,f3⟩:=jB hR #[R A.Y 0] 32 #[R (A.bt s) 0] 100 #[R (A.bc s) 0] 105 #[I c.op.E] 3;have a0:=f0.cell 0 (v:=R A.Y 0) rfl;have a1:=f1.cell 0 (v:=R (A.bt s) 0) rfl;have a2:=f2.cell 0 (v:=R (A.bc s) 0) rfl;have a3:=f3.cell 0 (v:=I c.op.E) rfl;have a7:=r4.dZ ht 7 (v:=.map (some (A.bm s))) rfl;have hlk:=fun n=>eX (r4.drewN n) ht c.op.E
 have hpx:A.px s t c.op.E=.pointer none:=by unfold au.px;rw[hx];rfl
 rw[hpx] at hlk;have ab:=r4.dZ ht 3 (v:=zu t.aG) rfl;have gd:=fun n=>(Grow.drewN A.L ((((w.alloc (.cells #[R A.Y 0] 32)).alloc (.cells #[R (A.bt s) 0] 100)).alloc (.cells #[R (A.bc s) 0] 105)).alloc (.cells #[I c.op.E] 3)) n).trans (Grow.drew A.L _)
 have HF:=U (fun n=>zA (qz (r4.drewN n).drew s c.op.E t.aG (.func (.func 115) #[] #[.pointer (some ⟨w.heap.size+1,0,none⟩),.pointer (some ⟨w.heap.size+1+1+1,0,none⟩),R w.heap.size 0,.pointer (some ⟨w.heap.size+1+1,0,none⟩)]) .get ⟨_,_,_,_,rfl,f1.box.grow (gd n),f3.box.grow (gd n),f0.box.grow (gd n),f2.box.grow (gd n)⟩) (g4.trans (gd n)));clear hR ht hc hx r3 g3 r4 g4 f0 f1 f2 f3 gd hpx;generalize c.op.E=E at*;generalize t.aG=bg at*;go_enter Tryz.func94,Tryz.ntmps94;go_wp2_with fail;generalize (((w.alloc _).alloc _).alloc _).alloc _=w4 at*
 go_quiet (fail)
 go_wp2_with fail;generalize iG:w4.drewN _=w5;have e0:w5.cell? (J w.heap.size 0)=zs A.Y 0:=by rw[<-iG];exact a0
 have e1:w5.cell? ⟨w.heap.size+1,0,none⟩=zs (A.bt s) 0:=by rw[<-iG];exact a1
 have e3:w5.cell? ⟨w.heap.size+1+1+1,0,none⟩=zt E:=by rw[<-iG];exact a3
 have eb:w5.cell? (J (A.bt s) 3)=zv bg:=by rw[<-iG];exact ab
 have OM:∀ n,w4.drewN n=w5->zk 114 #[R A.Y 0,R (A.bt s) 0,I E,zu bg,.func (.func 115) #[] #[.pointer (some ⟨w.heap.size+1,0,none⟩),.pointer (some ⟨w.heap.size+1+1+1,0,none⟩),R w.heap.size 0,.pointer (some ⟨w.heap.size+1+1,0,none⟩)]] w5.drew (aZ A w5.drew s (D,.start ⟨E,bg,.get⟩))∧Grow A.L w A.L w5.drew:=fun n h=>by rw[<-h];exact HF.out n
 have IL:=OM _ iG;have OO:=U IL;clear a0 a1 a2 a3 a7 ab hlk HF OM IL iG;refine wp_region_still_tail 8 (by kernel_rfl) (by kernel_rfl) ?_;simp only[jk,jl,jm,jo]
 repeat still_step
 refine wpStill_nil ?_;go_wp2_with (go_at_call 114;refine (OO.out.1).mono ?_;rintro e w2 ⟨A2,v,rfl,p1,p2,p3,p4⟩);go_ret;exact⟨A2,v,rfl,p1,OO.out.2.trans p2,p3,p4⟩
theorem Az (hR:aD A D w) (s:Nat) (t:bB) (ht:D.ag.getD s none=some t) (c:dF) (hc:D.calls.getD s none=some c) (hmp:A.mp=0) (x:jr) (hx:t.cell c.op.E=some x) (h1:1<=t.id) (h2:t.id<=65535) (hp:iL D):
 zk 98 #[R A.Y 0,R (A.bt s) 0,R (A.bc s) 0] w (aZ A w s (pU D s t x c.op.kind)):=by
 obtain⟨r3,g3,_,_,_⟩:=iO hR #[R A.Y 0] 32 #[R (A.bt s) 0] 100 #[R (A.bc s) 0] 105;have k1:=r3.call hc 1 (v:=I c.op.E) rfl;obtain⟨r4,g4,f0,f1,f2,f3⟩:=jB hR #[R A.Y 0] 32 #[R (A.bt s) 0] 100 #[R (A.bc s) 0] 105 #[I c.op.E] 3;have a0:=f0.cell 0 (v:=R A.Y 0) rfl;have a1:=f1.cell 0 (v:=R (A.bt s) 0) rfl;have a2:=f2.cell 0 (v:=R (A.bc s) 0) rfl;have a3:=f3.cell 0 (v:=I c.op.E) rfl;have a7:=r4.dZ ht 7 (v:=.map (some (A.bm s))) rfl;have hlk:=fun n=>eX (r4.drewN n) ht c.op.E
 have hpx:A.px s t c.op.E=R (A.bx s c.op.E) 0:=by unfold au.px;rw[hx];rfl
 rw[hpx] at hlk;have HW:Hid (∀ n w5,((((w.alloc (.cells #[R A.Y 0] 32)).alloc (.cells #[R (A.bt s) 0] 100)).alloc (.cells #[R (A.bc s) 0] 105)).alloc (.cells #[I c.op.E] 3)).drewN n=w5->zk 129 #[R A.Y 0,R (A.bt s) 0,R (A.bc s) 0,R (A.bx s c.op.E) 0] w5 (aZ A w5 s (pU D s t x c.op.kind))∧Grow A.L w A.L w5):=by
  rintro n w5 rfl;exact⟨Av (r4.drewN n) s t ht c hc hmp x hx h1 h2 hp,g4.trans (Grow.drewN _ _ n)⟩
 clear hR ht hc hx r3 g3 r4 g4 f0 f1 f2 f3 hpx hmp h1 h2 hp;generalize pU D s t x c.op.kind=res at*;generalize A.bx s c.op.E=kx at*;generalize c.op.E=E at*;go_enter Tryz.func98,Tryz.ntmps98;go_wp2_with fail;generalize hw4:(((w.alloc _).alloc _).alloc _).alloc _=w4 at*
 go_quiet (fail)
 generalize iG:w4.drewN _=w5;have e0:w5.cell? (J w.heap.size 0)=zs A.Y 0:=by rw[<-iG];exact a0
 have e1:w5.cell? ⟨w.heap.size+1,0,none⟩=zs (A.bt s) 0:=by rw[<-iG];exact a1
 have e2:w5.cell? ⟨w.heap.size+1+1,0,none⟩=zs (A.bc s) 0:=by rw[<-iG];exact a2
 have H5:=U (HW.out _ w5 iG);clear a0 a1 a2 a3 a7 hlk iG;go_wp2_with (go_at_call 129;refine (H5.out.1).mono ?_;rintro e w2 ⟨A2,v,rfl,p1,p2,p3,p4⟩);go_ret;exact⟨A2,v,rfl,p1,H5.out.2.trans p2,p3,p4⟩
theorem GD (hR:aD A D w) (s:Nat) (t:bB) (ht:D.ag.getD s none=some t) (c:dF) (hc:D.calls.getD s none=some c) (x:jr) (hx:t.cell c.op.E=some x) (hth:x.there=false):
 zk 94 #[R A.Y 0,R (A.bt s) 0,R (A.bc s) 0] w (aZ A w s (D,.fin {e:=11})):=by
 obtain⟨r3,g3,_,_,_⟩:=iO hR #[R A.Y 0] 32 #[R (A.bt s) 0] 100 #[R (A.bc s) 0] 105;have k1:=r3.call hc 1 (v:=I c.op.E) rfl;obtain⟨r4,g4,f0,f1,f2,f3⟩:=jB hR #[R A.Y 0] 32 #[R (A.bt s) 0] 100 #[R (A.bc s) 0] 105 #[I c.op.E] 3;have a0:=f0.cell 0 (v:=R A.Y 0) rfl;have a1:=f1.cell 0 (v:=R (A.bt s) 0) rfl;have a2:=f2.cell 0 (v:=R (A.bc s) 0) rfl;have a3:=f3.cell 0 (v:=I c.op.E) rfl;have a7:=r4.dZ ht 7 (v:=.map (some (A.bm s))) rfl;have hlk:=fun n=>eX (r4.drewN n) ht c.op.E
 have hpx:A.px s t c.op.E=R (A.bx s c.op.E) 0:=by unfold au.px;rw[hx];rfl
 rw[hpx] at hlk;have HW:Hid (∀ n w5,((((w.alloc (.cells #[R A.Y 0] 32)).alloc (.cells #[R (A.bt s) 0] 100)).alloc (.cells #[R (A.bc s) 0] 105)).alloc (.cells #[I c.op.E] 3)).drewN n=w5->zB w5 (A.bx s c.op.E) 2 false∧zk 113 #[R A.Y 0,R (A.bc s) 0,.agg #[I 11,I 0,.slice none 0 0,I 0,I 0]] w5 (aZ A w5 s (D,.fin {e:=11}))∧Grow A.L w A.L w5):=by
  rintro n w5 rfl;obtain⟨_,_,x2⟩:=(r4.drewN n).BS ht hx;rw[hth] at x2;exact⟨x2,iE (r4.drewN n) s {e:=11} 11 0 0 0 (.slice none 0 0) rfl (.inr ⟨rfl,rfl⟩),g4.trans (Grow.drewN _ _ n)⟩
 clear hR ht hc hx r3 g3 r4 g4 f0 f1 f2 f3 hpx hth;generalize A.bx s c.op.E=kx at*;generalize c.op.E=E at*;go_enter Tryz.func94,Tryz.ntmps94;go_wp2_with fail;generalize hw4:(((w.alloc _).alloc _).alloc _).alloc _=w4 at*
 go_quiet (fail)
 generalize iG:w4.drewN _=w5;have e0:w5.cell? (J w.heap.size 0)=zs A.Y 0:=by rw[<-iG];exact a0
 have e1:w5.cell? ⟨w.heap.size+1,0,none⟩=zs (A.bt s) 0:=by rw[<-iG];exact a1
 have e2:w5.cell? ⟨w.heap.size+1+1,0,none⟩=zs (A.bc s) 0:=by rw[<-iG];exact a2
 obtain⟨x2,he,gg⟩:=HW.out _ w5 iG;have H5:=U (zA he gg);clear he gg;clear a0 a1 a2 a3 a7 hlk iG;go_wp2_with (go_at_call 113;refine (H5.out.1).mono ?_;rintro e w2 ⟨A2,v,rfl,p1,p2,p3,p4⟩);go_ret;exact⟨A2,v,rfl,p1,H5.out.2.trans p2,p3,p4⟩
theorem EL (hR:aD A D w) (s:Nat) (t:bB) (ht:D.ag.getD s none=some t) (c:dF) (hc:D.calls.getD s none=some c) (x:jr) (hx:t.cell c.op.E=some x) (hth:x.there=true) (hv:VL D x.own):
 zk 94 #[R A.Y 0,R (A.bt s) 0,R (A.bc s) 0] w (aZ A w s (D,.fin {value:=D.valueOf x.own})):=by
 obtain⟨r3,g3,_,_,_⟩:=iO hR #[R A.Y 0] 32 #[R (A.bt s) 0] 100 #[R (A.bc s) 0] 105;have k1:=r3.call hc 1 (v:=I c.op.E) rfl;obtain⟨r4,g4,f0,f1,f2,f3⟩:=jB hR #[R A.Y 0] 32 #[R (A.bt s) 0] 100 #[R (A.bc s) 0] 105 #[I c.op.E] 3;have a0:=f0.cell 0 (v:=R A.Y 0) rfl;have a1:=f1.cell 0 (v:=R (A.bt s) 0) rfl;have a2:=f2.cell 0 (v:=R (A.bc s) 0) rfl;have a3:=f3.cell 0 (v:=I c.op.E) rfl;have a7:=r4.dZ ht 7 (v:=.map (some (A.bm s))) rfl;have hlk:=fun n=>eX (r4.drewN n) ht c.op.E
 have hpx:A.px s t c.op.E=R (A.bx s c.op.E) 0:=by unfold au.px;rw[hx];rfl
 rw[hpx] at hlk;have HW:Hid (∀ n w5,((((w.alloc (.cells #[R A.Y 0] 32)).alloc (.cells #[R (A.bt s) 0] 100)).alloc (.cells #[R (A.bc s) 0] 105)).alloc (.cells #[I c.op.E] 3)).drewN n=w5->zB w5 (A.bx s c.op.E) 2 true∧zV w5 (A.bx s c.op.E) 0 x.own∧zk 87 #[R A.Y 0,zu x.own] w5.drew (fun e G=>e=.returned (.pointer (some ⟨A.bv,2*aj x.own,none⟩))∧G=w5.drew)∧w5.drew.cell? ⟨A.bv,2*aj x.own+1,none⟩=zt (D.valueOf x.own:Int)∧zk 113 #[R A.Y 0,R (A.bc s) 0,.agg #[I 0,I (D.valueOf x.own:Int),.slice none 0 0,I 0,I 0]] w5.drew (aZ A w5.drew s (D,.fin {value:=D.valueOf x.own}))∧Grow A.L w A.L w5.drew):=by
  rintro n w5 rfl;obtain⟨x0,_,x2⟩:=(r4.drewN n).BS ht hx;rw[hth] at x2;have q:=(r4.drewN n).drew;exact⟨x2,x0,flip (kZ q x.own hv.lo hv.hi hv.u),(q.val (iw hv)).2,iE q s {value:=D.valueOf x.own} 0 (D.valueOf x.own:Int) 0 0 (.slice none 0 0) rfl (.inr ⟨rfl,rfl⟩),g4.trans ((Grow.drewN _ _ n).trans (Grow.drew _ _))⟩
 clear hR ht hc hx r3 g3 r4 g4 f0 f1 f2 f3 hpx hth hv;generalize D.valueOf x.own=va at*;generalize A.bx s c.op.E=kx at*;generalize c.op.E=E at*;generalize 2*aj x.own=iv at*;generalize x.own=ow at*;go_enter Tryz.func94,Tryz.ntmps94;go_wp2_with fail;generalize hw4:(((w.alloc _).alloc _).alloc _).alloc _=w4 at*
 go_quiet (fail)
 generalize iG:w4.drewN _=w5;have e0:w5.cell? (J w.heap.size 0)=zs A.Y 0:=by rw[<-iG];exact a0
 have e1:w5.cell? ⟨w.heap.size+1,0,none⟩=zs (A.bt s) 0:=by rw[<-iG];exact a1
 have e2:w5.cell? ⟨w.heap.size+1+1,0,none⟩=zs (A.bc s) 0:=by rw[<-iG];exact a2
 obtain⟨x2,x0,hd,hv,he,gg⟩:=HW.out _ w5 iG;have HD:=U hd;have H5:=U (zA he gg);clear hd he gg;clear a0 a1 a2 a3 a7 hlk iG;go_wp2_with fail;refine wp_region_still_tail 12 (by kernel_rfl) (by kernel_rfl) ?_;simp only[jk,jl,jm,jo]
 repeat still_step
 still_call HD.out
 repeat still_step
 refine wpStill_nil ?_;change wpList _ _ _ _ _ w5.drew;generalize w5.drew=wd at*;go_wp2_with (go_at_call 113;refine (H5.out.1).mono ?_;rintro e w2 ⟨A2,v,rfl,p1,p2,p3,p4⟩);go_ret;exact⟨A2,v,rfl,p1,H5.out.2.trans p2,p3,p4⟩
theorem JN (hR:aD A D w) (s:Nat) (t:bB) (ht:D.ag.getD s none=some t) (i l at_ E F b0 b1 b2 b3 b4:Nat) (B0:lQ A.L w b0 l) (B1:aK A.L w b1 (R A.Y 0)) (B2:aK A.L w b2 (R (A.bt s) 0)) (B3:aK A.L w b3 (R (A.bc s) 0)) (B4:aK A.L w b4 (I i)) (hi:i+1<=t.reads.length) (hrl:t.reads.length<1000000):
 zk 145 #[zu F,R b0 0,R b1 0,R b2 0,R b3 0,R b4 0] w (aZ A w s (D.thn s ⟨E,at_,.judge i l⟩ F)):=by
 obtain⟨T0,k0,g0,F0⟩:=B0;have c0:=F0.cell 1 (v:=zu l) rfl;have c1:=B1.cell;have c2:=B2.cell;have c3:=B3.cell;have c4:=B4.cell;have n1:IntKind.i64.wrap ((i:Int)+1)=(i:Int)+1:=by rw[jH];omega
 have e1:D.thn s ⟨E,at_,.judge i l⟩ F=if F≠l then (D,.abort 14 3) else (D,dm t (i+1)):=by simp only[St.thn,bQ ht]
 rw[e1];have hj:zk 122 #[R A.Y 0,R (A.bt s) 0,R (A.bc s) 0,I ((i:Int)+1)] w (aZ A w s (D,dm t (i+1))):=wR hR s t ht (i+1) hi hrl;have ha:zk 97 #[R A.Y 0,R (A.bt s) 0,R (A.bc s) 0,I 14,I 3] w (aZ A w s (D,.abort 14 3)):=iP hR s 14 3;have HJ:=U hj;have HA:=U ha;clear hj ha hR ht F0 B1 B2 B3 B4 hi hrl e1
 by_cases hl:F=l
 . rw[aX (fun h=>h hl)]
   obtain⟨Q9,Ra,Rb,Rc,Re⟩:=qX (x:=F) (c:=l) (ci:=(l:Int)) (by omega);clear hl;go_enter Tryz.func145,Tryz.ntmps145;go_wp2_with (go_at_call 122;refine HJ.out.mono ?_;rintro e w2 ⟨A2,v,rfl,p1,p2,p3,p4⟩);go_ret;exact⟨A2,v,rfl,p1,p2,p3,p4⟩
 . rw[aV hl]
   obtain⟨Q9,Ra,Rb,Rc,Re⟩:=o9 (x:=F) (c:=l) (ci:=(l:Int)) (by omega);clear hl;go_enter Tryz.func145,Tryz.ntmps145;go_wp2_with (go_at_call 97;refine HA.out.mono ?_;rintro e w2 ⟨A2,v,rfl,p1,p2,p3,p4⟩);go_ret;exact⟨A2,v,rfl,p1,p2,p3,p4⟩
def Mj (A:au) (w:World) (s:Nat) (bE:St):Ending->World->Prop:=fun e G=>e=.returned (.tuple #[])∧∃ A',aD A' bE G∧Grow A.L w A'.L G∧bL A A' s∧A'.bx=A.bx
theorem OZ:(Tryz.prog.info? 152).map (fun i=>(i.zero,i.size,i.bytes))=some (some (.agg #[I 0,I 0]),2,16):=by kernel_rfl
theorem AA (l:List (Nat×Nat)) (E n:Nat):bI (l++[(E,n)])=bI l++[I E,I n]:=by simp[bI,two]
theorem wU (hR:aD A D w) (s:Nat) (c:dF) (hc:D.calls.getD s none=some c) (E n b0 b1:Nat) (B0:aK A.L w b0 (R (A.bc s) 0)) (B1:aK A.L w b1 (I E)) (hn:c.r.aB.length<1000000):
 zk 117 #[I n,R b0 0,R b1 0] w (Mj A w s (D.tell s E n)):=by
 have c0:=B0.cell;have c1:=B1.cell;have k7:w.cell? (J (A.bc s) 7)=some (A.aR s):=hR.call hc 7 rfl;obtain⟨r1,g1,_⟩:=cB hR #[I E,I n] 152;have aS:=r1.mem.all (.aB s);rw[gL hc] at aS;have ho:(w.alloc (.cells #[I E,I n] 152)).ownsRow 0 152 2 (A.aR s) c.r.aB.length (bI c.r.aB):=aS.1;obtain⟨av,iJ,hv,_⟩:=Ow.bD ho;have d0:(w.alloc (.cells #[I E,I n] 152)).cell? (J b0 0)=zs (A.bc s) 0:=(B0.grow g1).cell;have d1:(w.alloc (.cells #[I E,I n] 152)).cell? (J b1 0)=zt E:=(B1.grow g1).cell;have d7:(w.alloc (.cells #[I E,I n] 152)).cell? (J (A.bc s) 7)=some (A.aR s):=r1.call hc 7 rfl;have e:D.tell s E n=D.aF s {c with r:={c.r with aB:=c.r.aB++[(E,n)]}}:=by unfold St.tell;rw[aU hc]
 rw[e]
 have FN : Hid (∀ v' w2, w2.ownsRow 0 152 2 v' (c.r.aB.length + 1) (bI c.r.aB ++ [I (E : Int), I (n : Int)]) -> (w.alloc (.cells #[I (E : Int), I (n : Int)] 152)).grownBy w2 (A.aR s).ownBlock -> (v'.ownBlock = (A.aR s).ownBlock ∨ ∀ g, v'.ownBlock = some g -> (w.alloc (.cells #[I (E : Int), I (n : Int)] 152)).heap.size <= g) ->
     (∃ A',aD A' (D.aF s {c with r:={c.r with aB:=c.r.aB++[(E,n)]}}) (w2.setCell (J (A.bc s) 7) v')∧Grow A.L w A'.L (w2.setCell (J (A.bc s) 7) v')∧bL A A' s∧A'.bx=A.bx)∧w2.cell? (J (A.bc s) 7)=some (A.aR s)∧w2.frozen? (J (A.bc s) 7)=false∧zS w2 b0 0 (A.bc s) 0∧zT w2 b1 0 E):=by
  intro v' w2 q1 q2 q3;obtain⟨k1,k2,k3,k4⟩:=r1.IZ hc (c.r.aB++[(E,n)]) v' q2 (by rw[AA,jF];exact q1) q3;refine⟨⟨_,k1,g1.trans k2,⟨rfl,rfl,rfl,rfl,rfl,rfl,rfl,rfl,rfl,rfl,rfl,fun _ _=>rfl,fun k V=>bz _ _ V⟩,rfl⟩,k3,k4,?_⟩;have hne:∀ b v,aK A.L (w.alloc (.cells #[I E,I n] 152)) b v->w2.cell? (J b 0)=some v:=by
   intro b v Z;refine q2.cell Z.cell fun e=>?_
   have:=aS.2 b e.symm;obtain⟨_,hf⟩:=Z;rw[hf.1] at this
   cases this
  exact⟨hne _ _ (B0.grow g1),hne _ _ (B1.grow g1)⟩
 rw[hv] at k7 d7 ho FN;have HO:=U ho;have HK:Hid (∀ v':Value,True):=fun _=>trivial
 clear hR hc B0 B1 r1 g1 aS ho e;generalize hln:c.r.aB.length=len at*;have HN:=U hn;clear hln hn;generalize bI c.r.aB=xs at*;obtain⟨ii,hii,hz0,hz1,hz2⟩:=info_parts OZ;go_enter Tryz.func117,Tryz.ntmps117;go_wp2_with fail
 go_region_law (first|(refine Ow.kM _ (.tmp 9) (.tmp 13) 44 rfl 0 _ ii _ 2 16 Tryz.underlying44 hii hz0 hz1 hz2 rfl (by decide) (.slice av len iJ) len xs rfl HO.out (J w.heap.size 0) 1 1 (by omega) [I E,I n] rfl rfl (by intro j u hu;exact Ow.iF w [I E,I n] _ _ rfl j u hu) (by intro u hu;simp at hu;rcases hu with rfl|rfl<;>rfl) (by have:=HN.out;unfold maxLen;omega) (by have:=HN.out;omega) (zz _) ?_;intro v' w2 q1 q2 q3;obtain⟨x1,x2,x3,x4,x5⟩:=FN.out v' w2 q1 (pM q2) q3;obtain⟨a4,cap4,rfl,_⟩:=Ow.bD q1;have R1:=U x1;clear x1 q1 q2 q3))
 all_goals (go_end0;exact⟨rfl,R1.out⟩)
def uA (D:St) (t:bB):Prop:=∀ E x,t.cell E=some x->x.there=true->VL D x.own
theorem Cr (s n:Nat) (D:St) (E:Nat) (h:¬ (D.c s).op.hi<E) (hx:(D.t s).cell E=none):fA s (n+1) D E=(D,.start ⟨E,(D.t s).aG,.scan E⟩):=by unfold fA;rw[aX h,hx]
theorem Cs (s n:Nat) (D:St) (E:Nat) (x:jr) (h:¬ (D.c s).op.hi<E) (hx:(D.t s).cell E=some x):fA s (n+1) D E=fA s n (if x.there then D.tell s E (D.valueOf x.own) else D) (E+1):=by
 conv=>lhs;unfold fA
 rw[aX h,hx]
theorem GH (hR:aD A D w) (s:Nat) (t:bB) (ht:D.ag.getD s none=some t) (c:dF) (hc:D.calls.getD s none=some c) (E:Nat) (V:c.op.hi<E):
 zk 95 #[R A.Y 0,R (A.bt s) 0,R (A.bc s) 0,I E] w (aZ A w s (D,.fin c.r)):=by
 obtain⟨r5,g5,f0,f1,f2,f3,f4⟩:=jY hR #[R A.Y 0] 32 #[R (A.bt s) 0] 100 #[R (A.bc s) 0] 105 #[I E] 3 #[.func (.func 117) #[] #[.pointer (some ⟨w.heap.size+1+1,0,none⟩),.pointer (some ⟨w.heap.size+1+1+1,0,none⟩)]] 230;have a0:=f0.cell 0 (v:=R A.Y 0) rfl;have a1:=f1.cell 0 (v:=R (A.bt s) 0) rfl;have a2:=f2.cell 0 (v:=R (A.bc s) 0) rfl;have a3:=f3.cell 0 (v:=I E) rfl;have a4:=f4.cell 0 (v:=.func (.func 117) #[] #[.pointer (some ⟨w.heap.size+1+1,0,none⟩),.pointer (some ⟨w.heap.size+1+1+1,0,none⟩)]) rfl;have a7:=r5.dZ ht 7 (v:=.map (some (A.bm s))) rfl;have ah:=r5.call hc 2 (v:=I c.op.hi) rfl;have hlk:=fun n=>eX (r5.drewN n) ht E
 obtain⟨pv,hpv⟩:∃ pv,A.px s t E=.pointer pv:=by unfold au.px;split<;>exact⟨_,rfl⟩
 rw[hpv] at hlk;have aS:=(hR.mem.all (.aB s))
 rw[gL hc] at aS;obtain⟨pa,vX,hvp,_⟩:=Ow.bD aS.1
 have HW : Hid (∀ w6, Below (((((w.alloc (.cells #[R A.Y 0] 32)).alloc (.cells #[R (A.bt s) 0] 100)).alloc (.cells #[R (A.bc s) 0] 105)).alloc (.cells #[I (E : Int)] 3)).alloc (.cells #[.func (.func 117) #[] #[.pointer (some ⟨w.heap.size + 1 + 1, 0, none⟩), .pointer (some ⟨w.heap.size + 1 + 1 + 1, 0, none⟩)]] 230)).heap.size (((((w.alloc (.cells #[R A.Y 0] 32)).alloc (.cells #[R (A.bt s) 0] 100)).alloc (.cells #[R (A.bc s) 0] 105)).alloc (.cells #[I (E : Int)] 3)).alloc (.cells #[.func (.func 117) #[] #[.pointer (some ⟨w.heap.size + 1 + 1, 0, none⟩), .pointer (some ⟨w.heap.size + 1 + 1 + 1, 0, none⟩)]] 230)) w6 -> zS w6 w.heap.size 0 A.Y 0 ∧ w6.cell? ⟨w.heap.size + 1 + 1, 0, none⟩ =zs (A.bc s) 0 ∧ zT w6 (A.bc s) 5 (c.r.e : Int) ∧ zT w6 (A.bc s) 6 (c.r.value : Int) ∧ w6.cell? (J (A.bc s) 7) = some (A.aR s) ∧ zT w6 (A.bc s) 8 (c.r.over : Int) ∧ zT w6 (A.bc s) 9 (c.r.ay : Int) ∧
     zk 113 #[R A.Y 0,R (A.bc s) 0,.agg #[I c.r.e,I c.r.value,A.aR s,I c.r.over,I c.r.ay]] w6.drew (aZ A w6.drew s (D,.fin c.r))∧Grow A.L w A.L w6.drew):=by
  intro w6 Z;have q:=r5.below Z;have gd:=Grow.below (L:=A.L) Z;have g:=g5.trans gd;exact⟨(f0.grow gd).cell 0 rfl,(f2.grow gd).cell 0 rfl,q.call hc 5 rfl,q.call hc 6 rfl,q.call hc 7 rfl,q.call hc 8 rfl,q.call hc 9 rfl,iE q.drew s c.r c.r.e c.r.value c.r.over c.r.ay (A.aR s) rfl (.inl ⟨rfl,by rw[aU hc]⟩),g.trans (Grow.drew _ _)⟩
 rw[hvp] at HW;clear hR ht hc r5 g5 f0 f1 f2 f3 f4 hpv aS hvp;generalize c.op.hi=hi at*;obtain⟨Rf,Rh,Ri,Rj⟩:=QF (x:=hi) (c:=E) (xi:=(hi:Int)) (ci:=(E:Int)) (by omega);clear V;go_enter Tryz.func95,Tryz.ntmps95;go_wp2_with fail;generalize iG:((((w.alloc _).alloc _).alloc _).alloc _).alloc _=w5 at*
 go_quiet (fail)
 go_wp2_with fail
 go_quiet (fail)
 first|generalize nR:(w5.drewN _).drewN _=w6|generalize nR:w5.drewN _=w6
 have hb6:Below w5.heap.size w5 w6:=by rw[<-nR];exact⟨rfl,rfl,rfl,zr _,fun _ _=>rfl⟩
 obtain⟨e0,e2,k5,k6,k7,k8,k9,he,gg⟩:=HW.out w6 hb6;have HE:=U (zA he gg);clear a0 a1 a2 a3 a4 a7 ah hlk nR hb6 he gg;go_wp2_with fail;refine wp_region_still_tail 6 (by kernel_rfl) (by kernel_rfl) ?_;simp only[jk,jl,jm,jo]
 repeat still_step
 refine wpStill_nil ?_;change wpList _ _ _ _ _ w6.drew;generalize w6.drew=wd at*;go_wp2_with (go_at_call 113;refine HE.out.1.mono ?_;rintro e w2 ⟨A2,v,rfl,p1,p2,p3,p4⟩);go_ret;exact⟨A2,v,rfl,p1,HE.out.2.trans p2,p3,p4⟩
theorem EM (hR:aD A D w) (s:Nat) (t:bB) (ht:D.ag.getD s none=some t) (c:dF) (hc:D.calls.getD s none=some c) (E:Nat) (V:¬ c.op.hi<E) (hx:t.cell E=none):
 zk 95 #[R A.Y 0,R (A.bt s) 0,R (A.bc s) 0,I E] w (aZ A w s (D,.start ⟨E,t.aG,.scan E⟩)):=by
 obtain⟨r5,g5,f0,f1,f2,f3,f4⟩:=jY hR #[R A.Y 0] 32 #[R (A.bt s) 0] 100 #[R (A.bc s) 0] 105 #[I E] 3 #[.func (.func 117) #[] #[.pointer (some ⟨w.heap.size+1+1,0,none⟩),.pointer (some ⟨w.heap.size+1+1+1,0,none⟩)]] 230;have a0:=f0.cell 0 (v:=R A.Y 0) rfl;have a1:=f1.cell 0 (v:=R (A.bt s) 0) rfl;have a2:=f2.cell 0 (v:=R (A.bc s) 0) rfl;have a3:=f3.cell 0 (v:=I E) rfl;have a4:=f4.cell 0 (v:=.func (.func 117) #[] #[.pointer (some ⟨w.heap.size+1+1,0,none⟩),.pointer (some ⟨w.heap.size+1+1+1,0,none⟩)]) rfl;have a7:=r5.dZ ht 7 (v:=.map (some (A.bm s))) rfl;have ah:=r5.call hc 2 (v:=I c.op.hi) rfl;have hlk:=fun n=>eX (r5.drewN n) ht E
 have hpx:A.px s t E=.pointer none:=by unfold au.px;rw[hx];rfl
 rw[hpx] at hlk
 have HW : Hid (∀ w6, Below (((((w.alloc (.cells #[R A.Y 0] 32)).alloc (.cells #[R (A.bt s) 0] 100)).alloc (.cells #[R (A.bc s) 0] 105)).alloc (.cells #[I (E : Int)] 3)).alloc (.cells #[.func (.func 117) #[] #[.pointer (some ⟨w.heap.size + 1 + 1, 0, none⟩), .pointer (some ⟨w.heap.size + 1 + 1 + 1, 0, none⟩)]] 230)).heap.size (((((w.alloc (.cells #[R A.Y 0] 32)).alloc (.cells #[R (A.bt s) 0] 100)).alloc (.cells #[R (A.bc s) 0] 105)).alloc (.cells #[I (E : Int)] 3)).alloc (.cells #[.func (.func 117) #[] #[.pointer (some ⟨w.heap.size + 1 + 1, 0, none⟩), .pointer (some ⟨w.heap.size + 1 + 1 + 1, 0, none⟩)]] 230)) w6 -> zS w6 w.heap.size 0 A.Y 0 ∧ w6.cell? ⟨w.heap.size + 1, 0, none⟩ =zs (A.bt s) 0 ∧ w6.cell? ⟨w.heap.size + 1 + 1 + 1, 0, none⟩ =zt (E : Int) ∧ zV w6 (A.bt s) 3 (t.aG : Int) ∧
     zk 114 #[R A.Y 0,R (A.bt s) 0,I E,zu t.aG,.func (.func 118) #[] #[.pointer (some ⟨w.heap.size+1,0,none⟩),.pointer (some ⟨w.heap.size+1+1+1,0,none⟩),.pointer (some ⟨w.heap.size+1+1+1+1,0,none⟩),R w.heap.size 0,.pointer (some ⟨w.heap.size+1+1,0,none⟩)]] w6.drew (aZ A w6.drew s (D,.start ⟨E,t.aG,.scan E⟩))∧Grow A.L w A.L w6.drew):=by
  intro w6 Z;have q:=r5.below Z;have gd:=Grow.below (L:=A.L) Z;have ge:=gd.trans (Grow.drew A.L _);exact⟨(f0.grow gd).cell 0 rfl,(f1.grow gd).cell 0 rfl,(f3.grow gd).cell 0 rfl,q.dZ ht 3 rfl,qz q.drew s E t.aG (.func (.func 118) #[] #[.pointer (some ⟨w.heap.size+1,0,none⟩),.pointer (some ⟨w.heap.size+1+1+1,0,none⟩),.pointer (some ⟨w.heap.size+1+1+1+1,0,none⟩),R w.heap.size 0,.pointer (some ⟨w.heap.size+1+1,0,none⟩)]) (.scan E) ⟨_,_,_,_,_,rfl,f1.box.grow ge,f3.box.grow ge,⟨_,f4.box.grow ge,_,_,rfl,f2.box.grow ge,f3.box.grow ge⟩,f0.box.grow ge,f2.box.grow ge⟩,g5.trans ge⟩
 clear hR ht hc r5 g5 f0 f1 f2 f3 f4 hpx hx;generalize c.op.hi=hi at*;generalize t.aG=bg at*;obtain⟨Rf,Rh,Ri,Rj⟩:=QG (x:=hi) (c:=E) (xi:=(hi:Int)) (ci:=(E:Int)) (by omega);clear V;go_enter Tryz.func95,Tryz.ntmps95;go_wp2_with fail;generalize iG:((((w.alloc _).alloc _).alloc _).alloc _).alloc _=w5 at*
 go_quiet (fail)
 go_wp2_with fail
 go_quiet (fail)
 first|generalize nR:(w5.drewN _).drewN _=w6|generalize nR:w5.drewN _=w6
 have hb6:Below w5.heap.size w5 w6:=by rw[<-nR];exact⟨rfl,rfl,rfl,zr _,fun _ _=>rfl⟩
 obtain⟨e0,e1,e3,eb,he,gg⟩:=HW.out w6 hb6;have HE:=U (zA he gg);clear a0 a1 a2 a3 a4 a7 ah hlk nR hb6 he gg;go_wp2_with fail;refine wp_region_still_tail 8 (by kernel_rfl) (by kernel_rfl) ?_;simp only[jk,jl,jm,jo]
 repeat still_step
 refine wpStill_nil ?_;change wpList _ _ _ _ _ w6.drew;generalize w6.drew=wd at*;go_wp2_with (go_at_call 114;refine HE.out.1.mono ?_;rintro e w2 ⟨A2,v,rfl,p1,p2,p3,p4⟩);go_ret;exact⟨A2,v,rfl,p1,HE.out.2.trans p2,p3,p4⟩
theorem EN (hR:aD A D w) (s:Nat) (t:bB) (ht:D.ag.getD s none=some t) (c:dF) (hc:D.calls.getD s none=some c) (E:Nat) (V:¬ c.op.hi<E) (Mk:E<=63) (x:jr) (hx:t.cell E=some x) (hth:x.there=false) (res:St×K) (hrec:∀ (A':au) (G:World),aD A' D G->bL A A' s->A'.bx=A.bx->zk 95 #[R A.Y 0,R (A.bt s) 0,R (A.bc s) 0,I ((E:Int)+1)] G (aZ A' G s res)):
 zk 95 #[R A.Y 0,R (A.bt s) 0,R (A.bc s) 0,I E] w (aZ A w s res):=by
 obtain⟨r5,g5,f0,f1,f2,f3,f4⟩:=jY hR #[R A.Y 0] 32 #[R (A.bt s) 0] 100 #[R (A.bc s) 0] 105 #[I E] 3 #[.func (.func 117) #[] #[.pointer (some ⟨w.heap.size+1+1,0,none⟩),.pointer (some ⟨w.heap.size+1+1+1,0,none⟩)]] 230;have a0:=f0.cell 0 (v:=R A.Y 0) rfl;have a1:=f1.cell 0 (v:=R (A.bt s) 0) rfl;have a2:=f2.cell 0 (v:=R (A.bc s) 0) rfl;have a3:=f3.cell 0 (v:=I E) rfl;have a4:=f4.cell 0 (v:=.func (.func 117) #[] #[.pointer (some ⟨w.heap.size+1+1,0,none⟩),.pointer (some ⟨w.heap.size+1+1+1,0,none⟩)]) rfl;have a7:=r5.dZ ht 7 (v:=.map (some (A.bm s))) rfl;have ah:=r5.call hc 2 (v:=I c.op.hi) rfl;have hlk:=fun n=>eX (r5.drewN n) ht E
 have hpx:A.px s t E=R (A.bx s E) 0:=by unfold au.px;rw[hx];rfl
 rw[hpx] at hlk;have n1:IntKind.i64.wrap ((E:Int)+1)=(E:Int)+1:=by rw[jH];omega
 have HW : Hid (∀ w6, Below (((((w.alloc (.cells #[R A.Y 0] 32)).alloc (.cells #[R (A.bt s) 0] 100)).alloc (.cells #[R (A.bc s) 0] 105)).alloc (.cells #[I (E : Int)] 3)).alloc (.cells #[.func (.func 117) #[] #[.pointer (some ⟨w.heap.size + 1 + 1, 0, none⟩), .pointer (some ⟨w.heap.size + 1 + 1 + 1, 0, none⟩)]] 230)).heap.size (((((w.alloc (.cells #[R A.Y 0] 32)).alloc (.cells #[R (A.bt s) 0] 100)).alloc (.cells #[R (A.bc s) 0] 105)).alloc (.cells #[I (E : Int)] 3)).alloc (.cells #[.func (.func 117) #[] #[.pointer (some ⟨w.heap.size + 1 + 1, 0, none⟩), .pointer (some ⟨w.heap.size + 1 + 1 + 1, 0, none⟩)]] 230)) w6 -> zS w6 w.heap.size 0 A.Y 0 ∧ w6.cell? ⟨w.heap.size + 1, 0, none⟩ =zs (A.bt s) 0 ∧ w6.cell? ⟨w.heap.size + 1 + 1, 0, none⟩ =zs (A.bc s) 0 ∧ w6.cell? ⟨w.heap.size + 1 + 1 + 1, 0, none⟩ =zt (E : Int) ∧ zB w6 (A.bx s E) 2 false ∧
     zk 95 #[R A.Y 0,R (A.bt s) 0,R (A.bc s) 0,I ((E:Int)+1)] w6 (aZ A w6 s res)∧Grow A.L w A.L w6):=by
  intro w6 Z;have q:=r5.below Z;have gd:=Grow.below (L:=A.L) Z;obtain⟨_,_,x2⟩:=q.BS ht hx;rw[hth] at x2;exact⟨(f0.grow gd).cell 0 rfl,(f1.grow gd).cell 0 rfl,(f2.grow gd).cell 0 rfl,(f3.grow gd).cell 0 rfl,x2,hrec A _ q (bL.refl _ _) rfl,g5.trans gd⟩
 clear hR ht hc r5 g5 f0 f1 f2 f3 f4 hpx hx hth hrec Mk;generalize c.op.hi=hi at*;generalize A.bx s E=kx at*;obtain⟨Rf,Rh,Ri,Rj⟩:=QG (x:=hi) (c:=E) (xi:=(hi:Int)) (ci:=(E:Int)) (by omega);clear V;go_enter Tryz.func95,Tryz.ntmps95;go_wp2_with fail;generalize iG:((((w.alloc _).alloc _).alloc _).alloc _).alloc _=w5 at*
 go_quiet (fail)
 go_wp2_with fail
 go_quiet (fail)
 first|generalize nR:(w5.drewN _).drewN _=w6|generalize nR:w5.drewN _=w6
 have hb6:Below w5.heap.size w5 w6:=by rw[<-nR];exact⟨rfl,rfl,rfl,zr _,fun _ _=>rfl⟩
 obtain⟨e0,e1,e2,e3,x2,he,gg⟩:=HW.out w6 hb6;have HE:=U (zA he gg);clear a0 a1 a2 a3 a4 a7 ah hlk nR hb6 he gg;go_wp2_with (go_at_call 95;refine HE.out.1.mono ?_;rintro e w2 ⟨A2,v,rfl,p1,p2,p3,p4⟩);go_ret;exact⟨A2,v,rfl,p1,HE.out.2.trans p2,p3,p4⟩
theorem EO (hR:aD A D w) (s:Nat) (t:bB) (ht:D.ag.getD s none=some t) (c:dF) (hc:D.calls.getD s none=some c) (E:Nat) (V:¬ c.op.hi<E) (Mk:E<=63) (x:jr) (hx:t.cell E=some x) (hth:x.there=true) (hv:VL D x.own) (hpl:c.r.aB.length<1000000) (res:St×K) (hrec:∀ (A':au) (G:World),aD A' (D.tell s E (D.valueOf x.own)) G->bL A A' s->A'.bx=A.bx->zk 95 #[R A.Y 0,R (A.bt s) 0,R (A.bc s) 0,I ((E:Int)+1)] G (aZ A' G s res)):
 zk 95 #[R A.Y 0,R (A.bt s) 0,R (A.bc s) 0,I E] w (aZ A w s res):=by
 obtain⟨r5,g5,f0,f1,f2,f3,f4⟩:=jY hR #[R A.Y 0] 32 #[R (A.bt s) 0] 100 #[R (A.bc s) 0] 105 #[I E] 3 #[.func (.func 117) #[] #[.pointer (some ⟨w.heap.size+1+1,0,none⟩),.pointer (some ⟨w.heap.size+1+1+1,0,none⟩)]] 230;have a0:=f0.cell 0 (v:=R A.Y 0) rfl;have a1:=f1.cell 0 (v:=R (A.bt s) 0) rfl;have a2:=f2.cell 0 (v:=R (A.bc s) 0) rfl;have a3:=f3.cell 0 (v:=I E) rfl;have a4:=f4.cell 0 (v:=.func (.func 117) #[] #[.pointer (some ⟨w.heap.size+1+1,0,none⟩),.pointer (some ⟨w.heap.size+1+1+1,0,none⟩)]) rfl;have a7:=r5.dZ ht 7 (v:=.map (some (A.bm s))) rfl;have ah:=r5.call hc 2 (v:=I c.op.hi) rfl;have hlk:=fun n=>eX (r5.drewN n) ht E
 have hpx:A.px s t E=R (A.bx s E) 0:=by unfold au.px;rw[hx];rfl
 rw[hpx] at hlk;have n1:IntKind.i64.wrap ((E:Int)+1)=(E:Int)+1:=by rw[jH];omega
 have HW : Hid (∀ w6, Below (((((w.alloc (.cells #[R A.Y 0] 32)).alloc (.cells #[R (A.bt s) 0] 100)).alloc (.cells #[R (A.bc s) 0] 105)).alloc (.cells #[I (E : Int)] 3)).alloc (.cells #[.func (.func 117) #[] #[.pointer (some ⟨w.heap.size + 1 + 1, 0, none⟩), .pointer (some ⟨w.heap.size + 1 + 1 + 1, 0, none⟩)]] 230)).heap.size (((((w.alloc (.cells #[R A.Y 0] 32)).alloc (.cells #[R (A.bt s) 0] 100)).alloc (.cells #[R (A.bc s) 0] 105)).alloc (.cells #[I (E : Int)] 3)).alloc (.cells #[.func (.func 117) #[] #[.pointer (some ⟨w.heap.size + 1 + 1, 0, none⟩), .pointer (some ⟨w.heap.size + 1 + 1 + 1, 0, none⟩)]] 230)) w6 -> zS w6 w.heap.size 0 A.Y 0 ∧ w6.cell? ⟨w.heap.size + 1 + 1 + 1 + 1, 0, none⟩ = some (.func (.func 117) #[] #[.pointer (some ⟨w.heap.size + 1 + 1, 0, none⟩), .pointer (some ⟨w.heap.size + 1 + 1 + 1, 0, none⟩)]) ∧ zB w6 (A.bx s E) 2 true ∧ zV w6 (A.bx s E) 0 (x.own : Int) ∧
     zk 87 #[R A.Y 0,zu x.own] w6.drew (fun e G=>e=.returned (.pointer (some ⟨A.bv,2*aj x.own,none⟩))∧G=w6.drew)∧w6.drew.cell? ⟨A.bv,2*aj x.own+1,none⟩=zt (D.valueOf x.own:Int)∧
     zk 117 #[I (D.valueOf x.own:Int),.pointer (some ⟨w.heap.size+1+1,0,none⟩),.pointer (some ⟨w.heap.size+1+1+1,0,none⟩)] w6.drew (Mj A w6.drew s (D.tell s E (D.valueOf x.own)))∧Grow A.L w A.L w6.drew∧
     ∀ (A':au) G,Grow A.L w6.drew A'.L G->zS G w.heap.size 0 A.Y 0∧G.cell? ⟨w.heap.size+1,0,none⟩=zs (A.bt s) 0∧G.cell? ⟨w.heap.size+1+1,0,none⟩=zs (A.bc s) 0∧G.cell? ⟨w.heap.size+1+1+1,0,none⟩=zt E):=by
  intro w6 Z;have q:=r5.below Z;have gd:=Grow.below (L:=A.L) Z;have ge:=gd.trans (Grow.drew A.L _);obtain⟨x0,_,x2⟩:=q.BS ht hx;rw[hth] at x2;exact⟨(f0.grow gd).cell 0 rfl,(f4.grow gd).cell 0 rfl,x2,x0,flip (kZ q.drew x.own hv.lo hv.hi hv.u),(q.drew.val (iw hv)).2,wU q.drew s c hc E (D.valueOf x.own) _ _ (f2.box.grow ge) (f3.box.grow ge) hpl,g5.trans ge,fun A' G g=>⟨((f0.grow ge).grow g).cell 0 rfl,((f1.grow ge).grow g).cell 0 rfl,((f2.grow ge).grow g).cell 0 rfl,((f3.grow ge).grow g).cell 0 rfl⟩⟩
 have Rk:=U hrec;clear hR ht hc r5 g5 f0 f1 f2 f3 f4 hpx hx hth hrec Mk hv hpl;generalize D.tell s E (D.valueOf x.own)=aH at*;generalize D.valueOf x.own=va at*;generalize 2*aj x.own=iv at*;generalize x.own=ow at*;generalize c.op.hi=hi at*;generalize A.bx s E=kx at*;obtain⟨Rf,Rh,Ri,Rj⟩:=QG (x:=hi) (c:=E) (xi:=(hi:Int)) (ci:=(E:Int)) (by omega);clear V;go_enter Tryz.func95,Tryz.ntmps95;go_wp2_with fail;generalize iG:((((w.alloc _).alloc _).alloc _).alloc _).alloc _=w5 at*
 go_quiet (fail)
 go_wp2_with fail
 go_quiet (fail)
 first|generalize nR:(w5.drewN _).drewN _=w6|generalize nR:w5.drewN _=w6
 have hb6:Below w5.heap.size w5 w6:=by rw[<-nR];exact⟨rfl,rfl,rfl,zr _,fun _ _=>rfl⟩
 obtain⟨e0,e4,x2,x0,hd,v1,ht,gg,hz⟩:=HW.out w6 hb6;have HD:=U hd;have HT:=U ht;have HG:=U gg;have HZ:=U hz;clear a0 a1 a2 a3 a4 a7 ah hlk nR hb6 hd ht gg hz;go_wp2_with fail;refine wp_region_still_tail 10 (by kernel_rfl) (by kernel_rfl) ?_;simp only[jk,jl,jm,jo]
 repeat still_step
 still_call HD.out
 repeat still_step
 refine wpStill_nil ?_;change wpList _ _ _ _ _ w6.drew;generalize w6.drew=wd at*;go_wp2_with (first|(go_at_call 117;refine HT.out.mono ?_;rintro e w2 ⟨rfl,A2,p1,p2,p3,p4⟩;obtain⟨e0,e1,e2,e3⟩:=HZ.out A2 w2 p2;have HR:=U (Rk.out A2 w2 p1 p3 p4);have HQ:=U (zA (HG.out.trans p2) p3);clear p1 p2 p3 p4)|(go_at_call 95;refine HR.out.mono ?_;rintro e w3 ⟨A3,v,rfl,p1,p2,p3,p4⟩));go_ret;exact⟨A3,v,rfl,p1,HQ.out.1.trans p2,HQ.out.2.trans p3,p4⟩
end Go.Proofs.YthicolbbmjfkfaaGreat.Em
