import Derived.Test.YthicolbbmjfkfaaGreatQn9
import Derived.Test.YthicolbbmjfkfaaGreatQn7
import Derived.Test.YthicolbbmjfkfaaGreatQn8
set_option linter.unusedVariables false
set_option linter.unusedSimpArgs false
set_option maxRecDepth 100000
set_option maxHeartbeats 1600000
namespace Go.Proofs.YthicolbbmjfkfaaGreat.Em
open Go.ChangeShapes Go.WideShapes Go.ChangeAt Go.RowKit En
variable {A:au} {D:St} {w:World}
theorem get_none (hR:aC A D w) (s:Nat) (t:bL) (ht:D.aj.getD s none=some t) (c:dN) (hc:D.calls.getD s none=some c) (hx:t.cell c.op.F=none):
 zk 94 #[R A.H 0,R (A.bt s) 0,R (A.bc s) 0] w (bE A w s (D,.start ⟨c.op.F,t.aJ,.get⟩)):=by
 obtain⟨r3,g3,_,_,_⟩:=je hR #[R A.H 0] 32 #[R (A.bt s) 0] 100 #[R (A.bc s) 0] 105;have k1:=r3.call hc 1 (v:=I c.op.F) rfl;obtain⟨r4,g4,f0,f1,f2,f3⟩:=jA hR #[R A.H 0] 32 #[R (A.bt s) 0] 100 #[R (A.bc s) 0] 105 #[I c.op.F] 3;have a0:=f0.cell 0 (v:=R A.H 0) rfl;have a1:=f1.cell 0 (v:=R (A.bt s) 0) rfl;have a2:=f2.cell 0 (v:=R (A.bc s) 0) rfl;have a3:=f3.cell 0 (v:=I c.op.F) rfl;have a7:=r4.fw ht 7 (v:=.map (some (A.bm s))) rfl;have hlk:=fun n=>fZ (r4.drewN n) ht c.op.F
 have hpx:A.px s t c.op.F=.pointer none:=by unfold au.px;rw[hx];rfl
 rw[hpx] at hlk;have ab:=r4.fw ht 3 (v:=zu t.aJ) rfl;have gd:=fun n=>(Grow.drewN A.L ((((w.alloc (.cells #[R A.H 0] 32)).alloc (.cells #[R (A.bt s) 0] 100)).alloc (.cells #[R (A.bc s) 0] 105)).alloc (.cells #[I c.op.F] 3)) n).trans (Grow.drew A.L _)
 have HF:=zH (fun n=>zA (tC (r4.drewN n).drew s c.op.F t.aJ (.func (.func 115) #[] #[.pointer (some ⟨w.heap.size+1,0,none⟩),.pointer (some ⟨w.heap.size+1+1+1,0,none⟩),R w.heap.size 0,.pointer (some ⟨w.heap.size+1+1,0,none⟩)]) .get ⟨_,_,_,_,rfl,f1.box.grow (gd n),f3.box.grow (gd n),f0.box.grow (gd n),f2.box.grow (gd n)⟩) (g4.trans (gd n)));clear hR ht hc hx r3 g3 r4 g4 f0 f1 f2 f3 gd hpx;generalize c.op.F=F at*;generalize t.aJ=bg at*;go_enter Tryz.func94,Tryz.ntmps94;go_wp2_with fail;generalize (((w.alloc _).alloc _).alloc _).alloc _=w4 at*
 go_quiet (fail)
 go_wp2_with fail;generalize iZ:w4.drewN _=w5;have e0:w5.cell? (J w.heap.size 0)=zs A.H 0:=by rw[<-iZ];exact a0
 have e1:w5.cell? ⟨w.heap.size+1,0,none⟩=zs (A.bt s) 0:=by rw[<-iZ];exact a1
 have e3:w5.cell? ⟨w.heap.size+1+1+1,0,none⟩=zt F:=by rw[<-iZ];exact a3
 have eb:w5.cell? (J (A.bt s) 3)=zv bg:=by rw[<-iZ];exact ab
 have Q7:∀ n,w4.drewN n=w5->zk 114 #[R A.H 0,R (A.bt s) 0,I F,zu bg,.func (.func 115) #[] #[.pointer (some ⟨w.heap.size+1,0,none⟩),.pointer (some ⟨w.heap.size+1+1+1,0,none⟩),R w.heap.size 0,.pointer (some ⟨w.heap.size+1+1,0,none⟩)]] w5.drew (bE A w5.drew s (D,.start ⟨F,bg,.get⟩))∧Grow A.L w A.L w5.drew:=fun n h=>by rw[<-h];exact HF.out n
 have TQ:=Q7 _ iZ;have TS:=zH TQ;clear a0 a1 a2 a3 a7 ab hlk HF Q7 TQ iZ;refine wp_region_still_tail 8 (by kernel_rfl) (by kernel_rfl) ?_;simp only[jS,jT,jU,jV]
 repeat still_step
 refine wpStill_nil ?_;go_wp2_with (go_at_call 114;refine (TS.out.1).mono ?_;rintro e w2 ⟨A2,v,rfl,p1,p2,p3,p4⟩);go_ret;exact⟨A2,v,rfl,p1,TS.out.2.trans p2,p3,p4⟩
theorem DT (hR:aC A D w) (s:Nat) (t:bL) (ht:D.aj.getD s none=some t) (c:dN) (hc:D.calls.getD s none=some c) (hmp:A.mp=0) (x:kP) (hx:t.cell c.op.F=some x) (h1:1<=t.id) (h2:t.id<=65535) (hp:iR D):
 zk 98 #[R A.H 0,R (A.bt s) 0,R (A.bc s) 0] w (bE A w s (rU D s t x c.op.kind)):=by
 obtain⟨r3,g3,_,_,_⟩:=je hR #[R A.H 0] 32 #[R (A.bt s) 0] 100 #[R (A.bc s) 0] 105;have k1:=r3.call hc 1 (v:=I c.op.F) rfl;obtain⟨r4,g4,f0,f1,f2,f3⟩:=jA hR #[R A.H 0] 32 #[R (A.bt s) 0] 100 #[R (A.bc s) 0] 105 #[I c.op.F] 3;have a0:=f0.cell 0 (v:=R A.H 0) rfl;have a1:=f1.cell 0 (v:=R (A.bt s) 0) rfl;have a2:=f2.cell 0 (v:=R (A.bc s) 0) rfl;have a3:=f3.cell 0 (v:=I c.op.F) rfl;have a7:=r4.fw ht 7 (v:=.map (some (A.bm s))) rfl;have hlk:=fun n=>fZ (r4.drewN n) ht c.op.F
 have hpx:A.px s t c.op.F=R (A.bx s c.op.F) 0:=by unfold au.px;rw[hx];rfl
 rw[hpx] at hlk;have HW:Hid (∀ n w5,((((w.alloc (.cells #[R A.H 0] 32)).alloc (.cells #[R (A.bt s) 0] 100)).alloc (.cells #[R (A.bc s) 0] 105)).alloc (.cells #[I c.op.F] 3)).drewN n=w5->zk 129 #[R A.H 0,R (A.bt s) 0,R (A.bc s) 0,R (A.bx s c.op.F) 0] w5 (bE A w5 s (rU D s t x c.op.kind))∧Grow A.L w A.L w5):=by
  rintro n w5 rfl;exact⟨Dm (r4.drewN n) s t ht c hc hmp x hx h1 h2 hp,g4.trans (Grow.drewN _ _ n)⟩
 clear hR ht hc hx r3 g3 r4 g4 f0 f1 f2 f3 hpx hmp h1 h2 hp;generalize rU D s t x c.op.kind=res at*;generalize A.bx s c.op.F=kx at*;generalize c.op.F=F at*;go_enter Tryz.func98,Tryz.ntmps98;go_wp2_with fail;generalize hw4:(((w.alloc _).alloc _).alloc _).alloc _=w4 at*
 go_quiet (fail)
 generalize iZ:w4.drewN _=w5;have e0:w5.cell? (J w.heap.size 0)=zs A.H 0:=by rw[<-iZ];exact a0
 have e1:w5.cell? ⟨w.heap.size+1,0,none⟩=zs (A.bt s) 0:=by rw[<-iZ];exact a1
 have e2:w5.cell? ⟨w.heap.size+1+1,0,none⟩=zs (A.bc s) 0:=by rw[<-iZ];exact a2
 have H5:=zH (HW.out _ w5 iZ);clear a0 a1 a2 a3 a7 hlk iZ;go_wp2_with (go_at_call 129;refine (H5.out.1).mono ?_;rintro e w2 ⟨A2,v,rfl,p1,p2,p3,p4⟩);go_ret;exact⟨A2,v,rfl,p1,H5.out.2.trans p2,p3,p4⟩
theorem LD (hR:aC A D w) (s:Nat) (t:bL) (ht:D.aj.getD s none=some t) (c:dN) (hc:D.calls.getD s none=some c) (x:kP) (hx:t.cell c.op.F=some x) (hth:x.there=false):
 zk 94 #[R A.H 0,R (A.bt s) 0,R (A.bc s) 0] w (bE A w s (D,.fin {e:=11})):=by
 obtain⟨r3,g3,_,_,_⟩:=je hR #[R A.H 0] 32 #[R (A.bt s) 0] 100 #[R (A.bc s) 0] 105;have k1:=r3.call hc 1 (v:=I c.op.F) rfl;obtain⟨r4,g4,f0,f1,f2,f3⟩:=jA hR #[R A.H 0] 32 #[R (A.bt s) 0] 100 #[R (A.bc s) 0] 105 #[I c.op.F] 3;have a0:=f0.cell 0 (v:=R A.H 0) rfl;have a1:=f1.cell 0 (v:=R (A.bt s) 0) rfl;have a2:=f2.cell 0 (v:=R (A.bc s) 0) rfl;have a3:=f3.cell 0 (v:=I c.op.F) rfl;have a7:=r4.fw ht 7 (v:=.map (some (A.bm s))) rfl;have hlk:=fun n=>fZ (r4.drewN n) ht c.op.F
 have hpx:A.px s t c.op.F=R (A.bx s c.op.F) 0:=by unfold au.px;rw[hx];rfl
 rw[hpx] at hlk;have HW:Hid (∀ n w5,((((w.alloc (.cells #[R A.H 0] 32)).alloc (.cells #[R (A.bt s) 0] 100)).alloc (.cells #[R (A.bc s) 0] 105)).alloc (.cells #[I c.op.F] 3)).drewN n=w5->zB w5 (A.bx s c.op.F) 2 false∧zk 113 #[R A.H 0,R (A.bc s) 0,.agg #[I 11,I 0,.slice none 0 0,I 0,I 0]] w5 (bE A w5 s (D,.fin {e:=11}))∧Grow A.L w A.L w5):=by
  rintro n w5 rfl;obtain⟨_,_,x2⟩:=(r4.drewN n).Fb ht hx;rw[hth] at x2;exact⟨x2,jf (r4.drewN n) s {e:=11} 11 0 0 0 (.slice none 0 0) rfl (.inr ⟨rfl,rfl⟩),g4.trans (Grow.drewN _ _ n)⟩
 clear hR ht hc hx r3 g3 r4 g4 f0 f1 f2 f3 hpx hth;generalize A.bx s c.op.F=kx at*;generalize c.op.F=F at*;go_enter Tryz.func94,Tryz.ntmps94;go_wp2_with fail;generalize hw4:(((w.alloc _).alloc _).alloc _).alloc _=w4 at*
 go_quiet (fail)
 generalize iZ:w4.drewN _=w5;have e0:w5.cell? (J w.heap.size 0)=zs A.H 0:=by rw[<-iZ];exact a0
 have e1:w5.cell? ⟨w.heap.size+1,0,none⟩=zs (A.bt s) 0:=by rw[<-iZ];exact a1
 have e2:w5.cell? ⟨w.heap.size+1+1,0,none⟩=zs (A.bc s) 0:=by rw[<-iZ];exact a2
 obtain⟨x2,he,gg⟩:=HW.out _ w5 iZ;have H5:=zH (zA he gg);clear he gg;clear a0 a1 a2 a3 a7 hlk iZ;go_wp2_with (go_at_call 113;refine (H5.out.1).mono ?_;rintro e w2 ⟨A2,v,rfl,p1,p2,p3,p4⟩);go_ret;exact⟨A2,v,rfl,p1,H5.out.2.trans p2,p3,p4⟩
theorem Jz (hR:aC A D w) (s:Nat) (t:bL) (ht:D.aj.getD s none=some t) (c:dN) (hc:D.calls.getD s none=some c) (x:kP) (hx:t.cell c.op.F=some x) (hth:x.there=true) (hv:VL D x.own):
 zk 94 #[R A.H 0,R (A.bt s) 0,R (A.bc s) 0] w (bE A w s (D,.fin {value:=D.valueOf x.own})):=by
 obtain⟨r3,g3,_,_,_⟩:=je hR #[R A.H 0] 32 #[R (A.bt s) 0] 100 #[R (A.bc s) 0] 105;have k1:=r3.call hc 1 (v:=I c.op.F) rfl;obtain⟨r4,g4,f0,f1,f2,f3⟩:=jA hR #[R A.H 0] 32 #[R (A.bt s) 0] 100 #[R (A.bc s) 0] 105 #[I c.op.F] 3;have a0:=f0.cell 0 (v:=R A.H 0) rfl;have a1:=f1.cell 0 (v:=R (A.bt s) 0) rfl;have a2:=f2.cell 0 (v:=R (A.bc s) 0) rfl;have a3:=f3.cell 0 (v:=I c.op.F) rfl;have a7:=r4.fw ht 7 (v:=.map (some (A.bm s))) rfl;have hlk:=fun n=>fZ (r4.drewN n) ht c.op.F
 have hpx:A.px s t c.op.F=R (A.bx s c.op.F) 0:=by unfold au.px;rw[hx];rfl
 rw[hpx] at hlk;have HW:Hid (∀ n w5,((((w.alloc (.cells #[R A.H 0] 32)).alloc (.cells #[R (A.bt s) 0] 100)).alloc (.cells #[R (A.bc s) 0] 105)).alloc (.cells #[I c.op.F] 3)).drewN n=w5->zB w5 (A.bx s c.op.F) 2 true∧zV w5 (A.bx s c.op.F) 0 x.own∧zk 87 #[R A.H 0,zu x.own] w5.drew (fun e E=>e=.returned (.pointer (some ⟨A.bv,2*ag x.own,none⟩))∧E=w5.drew)∧w5.drew.cell? ⟨A.bv,2*ag x.own+1,none⟩=zt (D.valueOf x.own:Int)∧zk 113 #[R A.H 0,R (A.bc s) 0,.agg #[I 0,I (D.valueOf x.own:Int),.slice none 0 0,I 0,I 0]] w5.drew (bE A w5.drew s (D,.fin {value:=D.valueOf x.own}))∧Grow A.L w A.L w5.drew):=by
  rintro n w5 rfl;obtain⟨x0,_,x2⟩:=(r4.drewN n).Fb ht hx;rw[hth] at x2;have q:=(r4.drewN n).drew;exact⟨x2,x0,flip (nA q x.own hv.lo hv.hi hv.u),(q.val (iY hv)).2,jf q s {value:=D.valueOf x.own} 0 (D.valueOf x.own:Int) 0 0 (.slice none 0 0) rfl (.inr ⟨rfl,rfl⟩),g4.trans ((Grow.drewN _ _ n).trans (Grow.drew _ _))⟩
 clear hR ht hc hx r3 g3 r4 g4 f0 f1 f2 f3 hpx hth hv;generalize D.valueOf x.own=va at*;generalize A.bx s c.op.F=kx at*;generalize c.op.F=F at*;generalize 2*ag x.own=iv at*;generalize x.own=ow at*;go_enter Tryz.func94,Tryz.ntmps94;go_wp2_with fail;generalize hw4:(((w.alloc _).alloc _).alloc _).alloc _=w4 at*
 go_quiet (fail)
 generalize iZ:w4.drewN _=w5;have e0:w5.cell? (J w.heap.size 0)=zs A.H 0:=by rw[<-iZ];exact a0
 have e1:w5.cell? ⟨w.heap.size+1,0,none⟩=zs (A.bt s) 0:=by rw[<-iZ];exact a1
 have e2:w5.cell? ⟨w.heap.size+1+1,0,none⟩=zs (A.bc s) 0:=by rw[<-iZ];exact a2
 obtain⟨x2,x0,hd,hv,he,gg⟩:=HW.out _ w5 iZ;have HD:=zH hd;have H5:=zH (zA he gg);clear hd he gg;clear a0 a1 a2 a3 a7 hlk iZ;go_wp2_with fail;refine wp_region_still_tail 12 (by kernel_rfl) (by kernel_rfl) ?_;simp only[jS,jT,jU,jV]
 repeat still_step
 still_call HD.out
 repeat still_step
 refine wpStill_nil ?_;change wpList _ _ _ _ _ w5.drew;generalize w5.drew=wd at*;go_wp2_with (go_at_call 113;refine (H5.out.1).mono ?_;rintro e w2 ⟨A2,v,rfl,p1,p2,p3,p4⟩);go_ret;exact⟨A2,v,rfl,p1,H5.out.2.trans p2,p3,p4⟩
theorem O4 (hR:aC A D w) (s:Nat) (t:bL) (ht:D.aj.getD s none=some t) (i l at_ F G b0 b1 b2 b3 b4:Nat) (B0:nP A.L w b0 l) (B1:aN A.L w b1 (R A.H 0)) (B2:aN A.L w b2 (R (A.bt s) 0)) (B3:aN A.L w b3 (R (A.bc s) 0)) (B4:aN A.L w b4 (I i)) (hi:i+1<=t.reads.length) (hrl:t.reads.length<1000000):
 zk 145 #[zu G,R b0 0,R b1 0,R b2 0,R b3 0,R b4 0] w (bE A w s (D.thn s ⟨F,at_,.judge i l⟩ G)):=by
 obtain⟨T0,k0,g0,F0⟩:=B0;have c0:=F0.cell 1 (v:=zu l) rfl;have c1:=B1.cell;have c2:=B2.cell;have c3:=B3.cell;have c4:=B4.cell;have n1:IntKind.i64.wrap ((i:Int)+1)=(i:Int)+1:=by rw[jG];omega
 have e1:D.thn s ⟨F,at_,.judge i l⟩ G=if G≠l then (D,.abort 14 3) else (D,dG t (i+1)):=by simp only[St.thn,cK ht]
 rw[e1];have hj:zk 122 #[R A.H 0,R (A.bt s) 0,R (A.bc s) 0,I ((i:Int)+1)] w (bE A w s (D,dG t (i+1))):=zP hR s t ht (i+1) hi hrl;have ha:zk 97 #[R A.H 0,R (A.bt s) 0,R (A.bc s) 0,I 14,I 3] w (bE A w s (D,.abort 14 3)):=jC hR s 14 3;have HJ:=zH hj;have HA:=zH ha;clear hj ha hR ht F0 B1 B2 B3 B4 hi hrl e1
 by_cases hl:G=l
 . rw[aR (fun h=>h hl)]
   obtain⟨Vy,Vz,VA,VB,WB⟩:=uA (x:=G) (c:=l) (ci:=(l:Int)) (by omega);clear hl;go_enter Tryz.func145,Tryz.ntmps145;go_wp2_with (go_at_call 122;refine HJ.out.mono ?_;rintro e w2 ⟨A2,v,rfl,p1,p2,p3,p4⟩);go_ret;exact⟨A2,v,rfl,p1,p2,p3,p4⟩
 . rw[aV hl]
   obtain⟨Vy,Vz,VA,VB,WB⟩:=rf (x:=G) (c:=l) (ci:=(l:Int)) (by omega);clear hl;go_enter Tryz.func145,Tryz.ntmps145;go_wp2_with (go_at_call 97;refine HA.out.mono ?_;rintro e w2 ⟨A2,v,rfl,p1,p2,p3,p4⟩);go_ret;exact⟨A2,v,rfl,p1,p2,p3,p4⟩
def Rp (A:au) (w:World) (s:Nat) (bB:St):Ending->World->Prop:=fun e E=>e=.returned (.tuple #[])∧∃ A',aC A' bB E∧Grow A.L w A'.L E∧bT A A' s∧A'.bx=A.bx
theorem Ux:(Tryz.prog.info? 152).map (fun i=>(i.zero,i.size,i.bytes))=some (some (.agg #[I 0,I 0]),2,16):=by kernel_rfl
theorem DU (l:List (Nat×Nat)) (F n:Nat):bJ (l++[(F,n)])=bJ l++[I F,I n]:=by simp[bJ,two]
theorem Ab (hR:aC A D w) (s:Nat) (c:dN) (hc:D.calls.getD s none=some c) (F n b0 b1:Nat) (B0:aN A.L w b0 (R (A.bc s) 0)) (B1:aN A.L w b1 (I F)) (hn:c.r.aO.length<1000000):
 zk 117 #[I n,R b0 0,R b1 0] w (Rp A w s (D.tell s F n)):=by
 have c0:=B0.cell;have c1:=B1.cell;have k7:w.cell? (J (A.bc s) 7)=some (A.aY s):=hR.call hc 7 rfl;obtain⟨r1,g1,_⟩:=dA hR #[I F,I n] 152;have aU:=r1.mem.all (.aO s);rw[iI hc] at aU;have ho:(w.alloc (.cells #[I F,I n] 152)).ownsRow 0 152 2 (A.aY s) c.r.aO.length (bJ c.r.aO):=aU.1;obtain⟨av,jc,hv,_⟩:=Ow.bN ho;have d0:(w.alloc (.cells #[I F,I n] 152)).cell? (J b0 0)=zs (A.bc s) 0:=(B0.grow g1).cell;have d1:(w.alloc (.cells #[I F,I n] 152)).cell? (J b1 0)=zt F:=(B1.grow g1).cell;have d7:(w.alloc (.cells #[I F,I n] 152)).cell? (J (A.bc s) 7)=some (A.aY s):=r1.call hc 7 rfl;have e:D.tell s F n=D.aK s {c with r:={c.r with aO:=c.r.aO++[(F,n)]}}:=by unfold St.tell;rw[bu hc]
 rw[e]
 have FN : Hid (∀ v' w2, w2.ownsRow 0 152 2 v' (c.r.aO.length + 1) (bJ c.r.aO ++ [I (F : Int), I (n : Int)]) -> (w.alloc (.cells #[I (F : Int), I (n : Int)] 152)).grownBy w2 (A.aY s).ownBlock -> (v'.ownBlock = (A.aY s).ownBlock ∨ ∀ g, v'.ownBlock = some g -> (w.alloc (.cells #[I (F : Int), I (n : Int)] 152)).heap.size <= g) ->
     (∃ A',aC A' (D.aK s {c with r:={c.r with aO:=c.r.aO++[(F,n)]}}) (w2.setCell (J (A.bc s) 7) v')∧Grow A.L w A'.L (w2.setCell (J (A.bc s) 7) v')∧bT A A' s∧A'.bx=A.bx)∧w2.cell? (J (A.bc s) 7)=some (A.aY s)∧w2.frozen? (J (A.bc s) 7)=false∧zS w2 b0 0 (A.bc s) 0∧zT w2 b1 0 F):=by
  intro v' w2 q1 q2 q3;obtain⟨k1,k2,k3,k4⟩:=r1.ND hc (c.r.aO++[(F,n)]) v' q2 (by rw[DU,jR];exact q1) q3;refine⟨⟨_,k1,g1.trans k2,⟨rfl,rfl,rfl,rfl,rfl,rfl,rfl,rfl,rfl,rfl,rfl,fun _ _=>rfl,fun k Z=>bH _ _ Z⟩,rfl⟩,k3,k4,?_⟩;have hne:∀ b v,aN A.L (w.alloc (.cells #[I F,I n] 152)) b v->w2.cell? (J b 0)=some v:=by
   intro b v hb;refine q2.cell hb.cell fun e=>?_
   have:=aU.2 b e.symm;obtain⟨_,hf⟩:=hb;rw[hf.1] at this
   cases this
  exact⟨hne _ _ (B0.grow g1),hne _ _ (B1.grow g1)⟩
 rw[hv] at k7 d7 ho FN;have HO:=zH ho;have HK:Hid (∀ v':Value,True):=fun _=>trivial
 clear hR hc B0 B1 r1 g1 aU ho e;generalize hln:c.r.aO.length=len at*;have HN:=zH hn;clear hln hn;generalize bJ c.r.aO=xs at*;obtain⟨ii,hii,hz0,hz1,hz2⟩:=info_parts Ux;go_enter Tryz.func117,Tryz.ntmps117;go_wp2_with fail
 go_region_law (first|(refine Ow.mP _ (.tmp 9) (.tmp 13) 44 rfl 0 _ ii _ 2 16 Tryz.underlying44 hii hz0 hz1 hz2 rfl (by decide) (.slice av len jc) len xs rfl HO.out (J w.heap.size 0) 1 1 (by omega) [I F,I n] rfl rfl (by intro j u hu;exact Ow.iw w [I F,I n] _ _ rfl j u hu) (by intro u hu;simp at hu;rcases hu with rfl|rfl<;>rfl) (by have:=HN.out;unfold maxLen;omega) (by have:=HN.out;omega) (zz _) ?_;intro v' w2 q1 q2 q3;obtain⟨x1,x2,x3,x4,x5⟩:=FN.out v' w2 q1 (rP q2) q3;obtain⟨a4,cap4,rfl,_⟩:=Ow.bN q1;have R1:=zH x1;clear x1 q1 q2 q3))
 all_goals (go_end0;exact⟨rfl,R1.out⟩)
def xD (D:St) (t:bL):Prop:=∀ F x,t.cell F=some x->x.there=true->VL D x.own
theorem Gb (s n:Nat) (D:St) (F:Nat) (h:¬ (D.c s).op.hi<F) (hx:(D.t s).cell F=none):iE s (n+1) D F=(D,.start ⟨F,(D.t s).aJ,.scan F⟩):=by unfold iE;rw[aR h,hx]
theorem Gc (s n:Nat) (D:St) (F:Nat) (x:kP) (h:¬ (D.c s).op.hi<F) (hx:(D.t s).cell F=some x):iE s (n+1) D F=iE s n (if x.there then D.tell s F (D.valueOf x.own) else D) (F+1):=by
 conv=>lhs;unfold iE
 rw[aR h,hx]
theorem LF (hR:aC A D w) (s:Nat) (t:bL) (ht:D.aj.getD s none=some t) (c:dN) (hc:D.calls.getD s none=some c) (F:Nat) (Z:c.op.hi<F):
 zk 95 #[R A.H 0,R (A.bt s) 0,R (A.bc s) 0,I F] w (bE A w s (D,.fin c.r)):=by
 obtain⟨r5,g5,f0,f1,f2,f3,f4⟩:=jB hR #[R A.H 0] 32 #[R (A.bt s) 0] 100 #[R (A.bc s) 0] 105 #[I F] 3 #[.func (.func 117) #[] #[.pointer (some ⟨w.heap.size+1+1,0,none⟩),.pointer (some ⟨w.heap.size+1+1+1,0,none⟩)]] 230;have a0:=f0.cell 0 (v:=R A.H 0) rfl;have a1:=f1.cell 0 (v:=R (A.bt s) 0) rfl;have a2:=f2.cell 0 (v:=R (A.bc s) 0) rfl;have a3:=f3.cell 0 (v:=I F) rfl;have a4:=f4.cell 0 (v:=.func (.func 117) #[] #[.pointer (some ⟨w.heap.size+1+1,0,none⟩),.pointer (some ⟨w.heap.size+1+1+1,0,none⟩)]) rfl;have a7:=r5.fw ht 7 (v:=.map (some (A.bm s))) rfl;have ah:=r5.call hc 2 (v:=I c.op.hi) rfl;have hlk:=fun n=>fZ (r5.drewN n) ht F
 obtain⟨pv,hpv⟩:∃ pv,A.px s t F=.pointer pv:=by unfold au.px;split<;>exact⟨_,rfl⟩
 rw[hpv] at hlk;have aU:=(hR.mem.all (.aO s))
 rw[iI hc] at aU;obtain⟨pa,yZ,hvp,_⟩:=Ow.bN aU.1
 have HW : Hid (∀ w6, Below (((((w.alloc (.cells #[R A.H 0] 32)).alloc (.cells #[R (A.bt s) 0] 100)).alloc (.cells #[R (A.bc s) 0] 105)).alloc (.cells #[I (F : Int)] 3)).alloc (.cells #[.func (.func 117) #[] #[.pointer (some ⟨w.heap.size + 1 + 1, 0, none⟩), .pointer (some ⟨w.heap.size + 1 + 1 + 1, 0, none⟩)]] 230)).heap.size (((((w.alloc (.cells #[R A.H 0] 32)).alloc (.cells #[R (A.bt s) 0] 100)).alloc (.cells #[R (A.bc s) 0] 105)).alloc (.cells #[I (F : Int)] 3)).alloc (.cells #[.func (.func 117) #[] #[.pointer (some ⟨w.heap.size + 1 + 1, 0, none⟩), .pointer (some ⟨w.heap.size + 1 + 1 + 1, 0, none⟩)]] 230)) w6 -> zS w6 w.heap.size 0 A.H 0 ∧ w6.cell? ⟨w.heap.size + 1 + 1, 0, none⟩ =zs (A.bc s) 0 ∧ zT w6 (A.bc s) 5 (c.r.e : Int) ∧ zT w6 (A.bc s) 6 (c.r.value : Int) ∧ w6.cell? (J (A.bc s) 7) = some (A.aY s) ∧ zT w6 (A.bc s) 8 (c.r.over : Int) ∧ zT w6 (A.bc s) 9 (c.r.aQ : Int) ∧
     zk 113 #[R A.H 0,R (A.bc s) 0,.agg #[I c.r.e,I c.r.value,A.aY s,I c.r.over,I c.r.aQ]] w6.drew (bE A w6.drew s (D,.fin c.r))∧Grow A.L w A.L w6.drew):=by
  intro w6 hb;have q:=r5.below hb;have gd:=Grow.below (L:=A.L) hb;have g:=g5.trans gd;exact⟨(f0.grow gd).cell 0 rfl,(f2.grow gd).cell 0 rfl,q.call hc 5 rfl,q.call hc 6 rfl,q.call hc 7 rfl,q.call hc 8 rfl,q.call hc 9 rfl,jf q.drew s c.r c.r.e c.r.value c.r.over c.r.aQ (A.aY s) rfl (.inl ⟨rfl,by rw[bu hc]⟩),g.trans (Grow.drew _ _)⟩
 rw[hvp] at HW;clear hR ht hc r5 g5 f0 f1 f2 f3 f4 hpv aU hvp;generalize c.op.hi=hi at*;obtain⟨WE,WG,WH,WI⟩:=Tj (x:=hi) (c:=F) (xi:=(hi:Int)) (ci:=(F:Int)) (by omega);clear Z;go_enter Tryz.func95,Tryz.ntmps95;go_wp2_with fail;generalize iZ:((((w.alloc _).alloc _).alloc _).alloc _).alloc _=w5 at*
 go_quiet (fail)
 go_wp2_with fail
 go_quiet (fail)
 first|generalize p8:(w5.drewN _).drewN _=w6|generalize p8:w5.drewN _=w6
 have hb6:Below w5.heap.size w5 w6:=by rw[<-p8];exact⟨rfl,rfl,rfl,zr _,fun _ _=>rfl⟩
 obtain⟨e0,e2,k5,k6,k7,k8,k9,he,gg⟩:=HW.out w6 hb6;have HE:=zH (zA he gg);clear a0 a1 a2 a3 a4 a7 ah hlk p8 hb6 he gg;go_wp2_with fail;refine wp_region_still_tail 6 (by kernel_rfl) (by kernel_rfl) ?_;simp only[jS,jT,jU,jV]
 repeat still_step
 refine wpStill_nil ?_;change wpList _ _ _ _ _ w6.drew;generalize w6.drew=wd at*;go_wp2_with (go_at_call 113;refine HE.out.1.mono ?_;rintro e w2 ⟨A2,v,rfl,p1,p2,p3,p4⟩);go_ret;exact⟨A2,v,rfl,p1,HE.out.2.trans p2,p3,p4⟩
theorem JA (hR:aC A D w) (s:Nat) (t:bL) (ht:D.aj.getD s none=some t) (c:dN) (hc:D.calls.getD s none=some c) (F:Nat) (Z:¬ c.op.hi<F) (hx:t.cell F=none):
 zk 95 #[R A.H 0,R (A.bt s) 0,R (A.bc s) 0,I F] w (bE A w s (D,.start ⟨F,t.aJ,.scan F⟩)):=by
 obtain⟨r5,g5,f0,f1,f2,f3,f4⟩:=jB hR #[R A.H 0] 32 #[R (A.bt s) 0] 100 #[R (A.bc s) 0] 105 #[I F] 3 #[.func (.func 117) #[] #[.pointer (some ⟨w.heap.size+1+1,0,none⟩),.pointer (some ⟨w.heap.size+1+1+1,0,none⟩)]] 230;have a0:=f0.cell 0 (v:=R A.H 0) rfl;have a1:=f1.cell 0 (v:=R (A.bt s) 0) rfl;have a2:=f2.cell 0 (v:=R (A.bc s) 0) rfl;have a3:=f3.cell 0 (v:=I F) rfl;have a4:=f4.cell 0 (v:=.func (.func 117) #[] #[.pointer (some ⟨w.heap.size+1+1,0,none⟩),.pointer (some ⟨w.heap.size+1+1+1,0,none⟩)]) rfl;have a7:=r5.fw ht 7 (v:=.map (some (A.bm s))) rfl;have ah:=r5.call hc 2 (v:=I c.op.hi) rfl;have hlk:=fun n=>fZ (r5.drewN n) ht F
 have hpx:A.px s t F=.pointer none:=by unfold au.px;rw[hx];rfl
 rw[hpx] at hlk
 have HW : Hid (∀ w6, Below (((((w.alloc (.cells #[R A.H 0] 32)).alloc (.cells #[R (A.bt s) 0] 100)).alloc (.cells #[R (A.bc s) 0] 105)).alloc (.cells #[I (F : Int)] 3)).alloc (.cells #[.func (.func 117) #[] #[.pointer (some ⟨w.heap.size + 1 + 1, 0, none⟩), .pointer (some ⟨w.heap.size + 1 + 1 + 1, 0, none⟩)]] 230)).heap.size (((((w.alloc (.cells #[R A.H 0] 32)).alloc (.cells #[R (A.bt s) 0] 100)).alloc (.cells #[R (A.bc s) 0] 105)).alloc (.cells #[I (F : Int)] 3)).alloc (.cells #[.func (.func 117) #[] #[.pointer (some ⟨w.heap.size + 1 + 1, 0, none⟩), .pointer (some ⟨w.heap.size + 1 + 1 + 1, 0, none⟩)]] 230)) w6 -> zS w6 w.heap.size 0 A.H 0 ∧ w6.cell? ⟨w.heap.size + 1, 0, none⟩ =zs (A.bt s) 0 ∧ w6.cell? ⟨w.heap.size + 1 + 1 + 1, 0, none⟩ =zt (F : Int) ∧ zV w6 (A.bt s) 3 (t.aJ : Int) ∧
     zk 114 #[R A.H 0,R (A.bt s) 0,I F,zu t.aJ,.func (.func 118) #[] #[.pointer (some ⟨w.heap.size+1,0,none⟩),.pointer (some ⟨w.heap.size+1+1+1,0,none⟩),.pointer (some ⟨w.heap.size+1+1+1+1,0,none⟩),R w.heap.size 0,.pointer (some ⟨w.heap.size+1+1,0,none⟩)]] w6.drew (bE A w6.drew s (D,.start ⟨F,t.aJ,.scan F⟩))∧Grow A.L w A.L w6.drew):=by
  intro w6 hb;have q:=r5.below hb;have gd:=Grow.below (L:=A.L) hb;have ge:=gd.trans (Grow.drew A.L _);exact⟨(f0.grow gd).cell 0 rfl,(f1.grow gd).cell 0 rfl,(f3.grow gd).cell 0 rfl,q.fw ht 3 rfl,tC q.drew s F t.aJ (.func (.func 118) #[] #[.pointer (some ⟨w.heap.size+1,0,none⟩),.pointer (some ⟨w.heap.size+1+1+1,0,none⟩),.pointer (some ⟨w.heap.size+1+1+1+1,0,none⟩),R w.heap.size 0,.pointer (some ⟨w.heap.size+1+1,0,none⟩)]) (.scan F) ⟨_,_,_,_,_,rfl,f1.box.grow ge,f3.box.grow ge,⟨_,f4.box.grow ge,_,_,rfl,f2.box.grow ge,f3.box.grow ge⟩,f0.box.grow ge,f2.box.grow ge⟩,g5.trans ge⟩
 clear hR ht hc r5 g5 f0 f1 f2 f3 f4 hpx hx;generalize c.op.hi=hi at*;generalize t.aJ=bg at*;obtain⟨WE,WG,WH,WI⟩:=Vf (x:=hi) (c:=F) (xi:=(hi:Int)) (ci:=(F:Int)) (by omega);clear Z;go_enter Tryz.func95,Tryz.ntmps95;go_wp2_with fail;generalize iZ:((((w.alloc _).alloc _).alloc _).alloc _).alloc _=w5 at*
 go_quiet (fail)
 go_wp2_with fail
 go_quiet (fail)
 first|generalize p8:(w5.drewN _).drewN _=w6|generalize p8:w5.drewN _=w6
 have hb6:Below w5.heap.size w5 w6:=by rw[<-p8];exact⟨rfl,rfl,rfl,zr _,fun _ _=>rfl⟩
 obtain⟨e0,e1,e3,eb,he,gg⟩:=HW.out w6 hb6;have HE:=zH (zA he gg);clear a0 a1 a2 a3 a4 a7 ah hlk p8 hb6 he gg;go_wp2_with fail;refine wp_region_still_tail 8 (by kernel_rfl) (by kernel_rfl) ?_;simp only[jS,jT,jU,jV]
 repeat still_step
 refine wpStill_nil ?_;change wpList _ _ _ _ _ w6.drew;generalize w6.drew=wd at*;go_wp2_with (go_at_call 114;refine HE.out.1.mono ?_;rintro e w2 ⟨A2,v,rfl,p1,p2,p3,p4⟩);go_ret;exact⟨A2,v,rfl,p1,HE.out.2.trans p2,p3,p4⟩
theorem JB (hR:aC A D w) (s:Nat) (t:bL) (ht:D.aj.getD s none=some t) (c:dN) (hc:D.calls.getD s none=some c) (F:Nat) (Z:¬ c.op.hi<F) (O5:F<=63) (x:kP) (hx:t.cell F=some x) (hth:x.there=false) (res:St×K) (hrec:∀ (A':au) (E:World),aC A' D E->bT A A' s->A'.bx=A.bx->zk 95 #[R A.H 0,R (A.bt s) 0,R (A.bc s) 0,I ((F:Int)+1)] E (bE A' E s res)):
 zk 95 #[R A.H 0,R (A.bt s) 0,R (A.bc s) 0,I F] w (bE A w s res):=by
 obtain⟨r5,g5,f0,f1,f2,f3,f4⟩:=jB hR #[R A.H 0] 32 #[R (A.bt s) 0] 100 #[R (A.bc s) 0] 105 #[I F] 3 #[.func (.func 117) #[] #[.pointer (some ⟨w.heap.size+1+1,0,none⟩),.pointer (some ⟨w.heap.size+1+1+1,0,none⟩)]] 230;have a0:=f0.cell 0 (v:=R A.H 0) rfl;have a1:=f1.cell 0 (v:=R (A.bt s) 0) rfl;have a2:=f2.cell 0 (v:=R (A.bc s) 0) rfl;have a3:=f3.cell 0 (v:=I F) rfl;have a4:=f4.cell 0 (v:=.func (.func 117) #[] #[.pointer (some ⟨w.heap.size+1+1,0,none⟩),.pointer (some ⟨w.heap.size+1+1+1,0,none⟩)]) rfl;have a7:=r5.fw ht 7 (v:=.map (some (A.bm s))) rfl;have ah:=r5.call hc 2 (v:=I c.op.hi) rfl;have hlk:=fun n=>fZ (r5.drewN n) ht F
 have hpx:A.px s t F=R (A.bx s F) 0:=by unfold au.px;rw[hx];rfl
 rw[hpx] at hlk;have n1:IntKind.i64.wrap ((F:Int)+1)=(F:Int)+1:=by rw[jG];omega
 have HW : Hid (∀ w6, Below (((((w.alloc (.cells #[R A.H 0] 32)).alloc (.cells #[R (A.bt s) 0] 100)).alloc (.cells #[R (A.bc s) 0] 105)).alloc (.cells #[I (F : Int)] 3)).alloc (.cells #[.func (.func 117) #[] #[.pointer (some ⟨w.heap.size + 1 + 1, 0, none⟩), .pointer (some ⟨w.heap.size + 1 + 1 + 1, 0, none⟩)]] 230)).heap.size (((((w.alloc (.cells #[R A.H 0] 32)).alloc (.cells #[R (A.bt s) 0] 100)).alloc (.cells #[R (A.bc s) 0] 105)).alloc (.cells #[I (F : Int)] 3)).alloc (.cells #[.func (.func 117) #[] #[.pointer (some ⟨w.heap.size + 1 + 1, 0, none⟩), .pointer (some ⟨w.heap.size + 1 + 1 + 1, 0, none⟩)]] 230)) w6 -> zS w6 w.heap.size 0 A.H 0 ∧ w6.cell? ⟨w.heap.size + 1, 0, none⟩ =zs (A.bt s) 0 ∧ w6.cell? ⟨w.heap.size + 1 + 1, 0, none⟩ =zs (A.bc s) 0 ∧ w6.cell? ⟨w.heap.size + 1 + 1 + 1, 0, none⟩ =zt (F : Int) ∧ zB w6 (A.bx s F) 2 false ∧
     zk 95 #[R A.H 0,R (A.bt s) 0,R (A.bc s) 0,I ((F:Int)+1)] w6 (bE A w6 s res)∧Grow A.L w A.L w6):=by
  intro w6 hb;have q:=r5.below hb;have gd:=Grow.below (L:=A.L) hb;obtain⟨_,_,x2⟩:=q.Fb ht hx;rw[hth] at x2;exact⟨(f0.grow gd).cell 0 rfl,(f1.grow gd).cell 0 rfl,(f2.grow gd).cell 0 rfl,(f3.grow gd).cell 0 rfl,x2,hrec A _ q (bT.refl _ _) rfl,g5.trans gd⟩
 clear hR ht hc r5 g5 f0 f1 f2 f3 f4 hpx hx hth hrec O5;generalize c.op.hi=hi at*;generalize A.bx s F=kx at*;obtain⟨WE,WG,WH,WI⟩:=Vf (x:=hi) (c:=F) (xi:=(hi:Int)) (ci:=(F:Int)) (by omega);clear Z;go_enter Tryz.func95,Tryz.ntmps95;go_wp2_with fail;generalize iZ:((((w.alloc _).alloc _).alloc _).alloc _).alloc _=w5 at*
 go_quiet (fail)
 go_wp2_with fail
 go_quiet (fail)
 first|generalize p8:(w5.drewN _).drewN _=w6|generalize p8:w5.drewN _=w6
 have hb6:Below w5.heap.size w5 w6:=by rw[<-p8];exact⟨rfl,rfl,rfl,zr _,fun _ _=>rfl⟩
 obtain⟨e0,e1,e2,e3,x2,he,gg⟩:=HW.out w6 hb6;have HE:=zH (zA he gg);clear a0 a1 a2 a3 a4 a7 ah hlk p8 hb6 he gg;go_wp2_with (go_at_call 95;refine HE.out.1.mono ?_;rintro e w2 ⟨A2,v,rfl,p1,p2,p3,p4⟩);go_ret;exact⟨A2,v,rfl,p1,HE.out.2.trans p2,p3,p4⟩
theorem JC (hR:aC A D w) (s:Nat) (t:bL) (ht:D.aj.getD s none=some t) (c:dN) (hc:D.calls.getD s none=some c) (F:Nat) (Z:¬ c.op.hi<F) (O5:F<=63) (x:kP) (hx:t.cell F=some x) (hth:x.there=true) (hv:VL D x.own) (hpl:c.r.aO.length<1000000) (res:St×K) (hrec:∀ (A':au) (E:World),aC A' (D.tell s F (D.valueOf x.own)) E->bT A A' s->A'.bx=A.bx->zk 95 #[R A.H 0,R (A.bt s) 0,R (A.bc s) 0,I ((F:Int)+1)] E (bE A' E s res)):
 zk 95 #[R A.H 0,R (A.bt s) 0,R (A.bc s) 0,I F] w (bE A w s res):=by
 obtain⟨r5,g5,f0,f1,f2,f3,f4⟩:=jB hR #[R A.H 0] 32 #[R (A.bt s) 0] 100 #[R (A.bc s) 0] 105 #[I F] 3 #[.func (.func 117) #[] #[.pointer (some ⟨w.heap.size+1+1,0,none⟩),.pointer (some ⟨w.heap.size+1+1+1,0,none⟩)]] 230;have a0:=f0.cell 0 (v:=R A.H 0) rfl;have a1:=f1.cell 0 (v:=R (A.bt s) 0) rfl;have a2:=f2.cell 0 (v:=R (A.bc s) 0) rfl;have a3:=f3.cell 0 (v:=I F) rfl;have a4:=f4.cell 0 (v:=.func (.func 117) #[] #[.pointer (some ⟨w.heap.size+1+1,0,none⟩),.pointer (some ⟨w.heap.size+1+1+1,0,none⟩)]) rfl;have a7:=r5.fw ht 7 (v:=.map (some (A.bm s))) rfl;have ah:=r5.call hc 2 (v:=I c.op.hi) rfl;have hlk:=fun n=>fZ (r5.drewN n) ht F
 have hpx:A.px s t F=R (A.bx s F) 0:=by unfold au.px;rw[hx];rfl
 rw[hpx] at hlk;have n1:IntKind.i64.wrap ((F:Int)+1)=(F:Int)+1:=by rw[jG];omega
 have HW : Hid (∀ w6, Below (((((w.alloc (.cells #[R A.H 0] 32)).alloc (.cells #[R (A.bt s) 0] 100)).alloc (.cells #[R (A.bc s) 0] 105)).alloc (.cells #[I (F : Int)] 3)).alloc (.cells #[.func (.func 117) #[] #[.pointer (some ⟨w.heap.size + 1 + 1, 0, none⟩), .pointer (some ⟨w.heap.size + 1 + 1 + 1, 0, none⟩)]] 230)).heap.size (((((w.alloc (.cells #[R A.H 0] 32)).alloc (.cells #[R (A.bt s) 0] 100)).alloc (.cells #[R (A.bc s) 0] 105)).alloc (.cells #[I (F : Int)] 3)).alloc (.cells #[.func (.func 117) #[] #[.pointer (some ⟨w.heap.size + 1 + 1, 0, none⟩), .pointer (some ⟨w.heap.size + 1 + 1 + 1, 0, none⟩)]] 230)) w6 -> zS w6 w.heap.size 0 A.H 0 ∧ w6.cell? ⟨w.heap.size + 1 + 1 + 1 + 1, 0, none⟩ = some (.func (.func 117) #[] #[.pointer (some ⟨w.heap.size + 1 + 1, 0, none⟩), .pointer (some ⟨w.heap.size + 1 + 1 + 1, 0, none⟩)]) ∧ zB w6 (A.bx s F) 2 true ∧ zV w6 (A.bx s F) 0 (x.own : Int) ∧
     zk 87 #[R A.H 0,zu x.own] w6.drew (fun e E=>e=.returned (.pointer (some ⟨A.bv,2*ag x.own,none⟩))∧E=w6.drew)∧w6.drew.cell? ⟨A.bv,2*ag x.own+1,none⟩=zt (D.valueOf x.own:Int)∧
     zk 117 #[I (D.valueOf x.own:Int),.pointer (some ⟨w.heap.size+1+1,0,none⟩),.pointer (some ⟨w.heap.size+1+1+1,0,none⟩)] w6.drew (Rp A w6.drew s (D.tell s F (D.valueOf x.own)))∧Grow A.L w A.L w6.drew∧
     ∀ (A':au) E,Grow A.L w6.drew A'.L E->zS E w.heap.size 0 A.H 0∧E.cell? ⟨w.heap.size+1,0,none⟩=zs (A.bt s) 0∧E.cell? ⟨w.heap.size+1+1,0,none⟩=zs (A.bc s) 0∧E.cell? ⟨w.heap.size+1+1+1,0,none⟩=zt F):=by
  intro w6 hb;have q:=r5.below hb;have gd:=Grow.below (L:=A.L) hb;have ge:=gd.trans (Grow.drew A.L _);obtain⟨x0,_,x2⟩:=q.Fb ht hx;rw[hth] at x2;exact⟨(f0.grow gd).cell 0 rfl,(f4.grow gd).cell 0 rfl,x2,x0,flip (nA q.drew x.own hv.lo hv.hi hv.u),(q.drew.val (iY hv)).2,Ab q.drew s c hc F (D.valueOf x.own) _ _ (f2.box.grow ge) (f3.box.grow ge) hpl,g5.trans ge,fun A' E g=>⟨((f0.grow ge).grow g).cell 0 rfl,((f1.grow ge).grow g).cell 0 rfl,((f2.grow ge).grow g).cell 0 rfl,((f3.grow ge).grow g).cell 0 rfl⟩⟩
 have WJ:=zH hrec;clear hR ht hc r5 g5 f0 f1 f2 f3 f4 hpx hx hth hrec O5 hv hpl;generalize D.tell s F (D.valueOf x.own)=aH at*;generalize D.valueOf x.own=va at*;generalize 2*ag x.own=iv at*;generalize x.own=ow at*;generalize c.op.hi=hi at*;generalize A.bx s F=kx at*;obtain⟨WE,WG,WH,WI⟩:=Vf (x:=hi) (c:=F) (xi:=(hi:Int)) (ci:=(F:Int)) (by omega);clear Z;go_enter Tryz.func95,Tryz.ntmps95;go_wp2_with fail;generalize iZ:((((w.alloc _).alloc _).alloc _).alloc _).alloc _=w5 at*
 go_quiet (fail)
 go_wp2_with fail
 go_quiet (fail)
 first|generalize p8:(w5.drewN _).drewN _=w6|generalize p8:w5.drewN _=w6
 have hb6:Below w5.heap.size w5 w6:=by rw[<-p8];exact⟨rfl,rfl,rfl,zr _,fun _ _=>rfl⟩
 obtain⟨e0,e4,x2,x0,hd,v1,ht,gg,hz⟩:=HW.out w6 hb6;have HD:=zH hd;have HT:=zH ht;have HG:=zH gg;have HZ:=zH hz;clear a0 a1 a2 a3 a4 a7 ah hlk p8 hb6 hd ht gg hz;go_wp2_with fail;refine wp_region_still_tail 10 (by kernel_rfl) (by kernel_rfl) ?_;simp only[jS,jT,jU,jV]
 repeat still_step
 still_call HD.out
 repeat still_step
 refine wpStill_nil ?_;change wpList _ _ _ _ _ w6.drew;generalize w6.drew=wd at*;go_wp2_with (first|(go_at_call 117;refine HT.out.mono ?_;rintro e w2 ⟨rfl,A2,p1,p2,p3,p4⟩;obtain⟨e0,e1,e2,e3⟩:=HZ.out A2 w2 p2;have HR:=zH (WJ.out A2 w2 p1 p3 p4);have HQ:=zH (zA (HG.out.trans p2) p3);clear p1 p2 p3 p4)|(go_at_call 95;refine HR.out.mono ?_;rintro e w3 ⟨A3,v,rfl,p1,p2,p3,p4⟩));go_ret;exact⟨A3,v,rfl,p1,HQ.out.1.trans p2,HQ.out.2.trans p3,p4⟩
theorem Uy (hR:aC A D w) (s:Nat) (t:bL) (ht:D.aj.getD s none=some t) (G:Nat) (hv:VL D G) (hx:D.word (af G 1)<18446744073709551616) (aL:D.count<4000000000000000000) (b0 b1 b2 b3:Nat)
 (B0:aN A.L w b0 (R A.H 0)) (B1:aN A.L w b1 (zu G)) (B2:aN A.L w b2 (R (A.bt s) 0)) (B3:aN A.L w b3 (R (A.bc s) 0)):
 zk 155 #[R b0 0,R b1 0,R b2 0,R b3 0] w (kY A w s (D.run s (.own G))):=by
 have hsl:=hR.sl;have c0:=B0.cell;have c1:=B1.cell;have e2:=hR.z2;have TK:=zH (eQ G 1 1 rfl hv.lo (by have:=hv.hi;omega) hv.u (by omega));have HL:Hid (∀ E,aC A D E->zk 42 #[R A.ba 0,I ((af G 1:Nat):Int)] E (vC A E D.tick (zu (D.word (af G 1):Int)))):=fun E r=>iJ r (af G 1) (dO hR hv.lo hv.hi (by omega)) aL
 have HKK:Hid (∀ E,aC A D.tick E->Grow A.L w A.L E->zS E b0 0 A.H 0∧zV E b1 0 G∧zS E A.H 2 A.ba 0):=fun E r g=>⟨(B0.grow g).cell,(B1.grow g).cell,r.df 2 rfl⟩
 have hrd:=rQ (D.word (af G 1)) hx;have FE:=zH hrd;have nT:Hid (aC A D w.drew):=hR.drew;have HG:=zG A.L w;have FC:Hid (Fix A.L (w.drew.alloc (.cells #[zu 0] 25)) w.heap.size (.cells #[zu 0] 25)):=eP hR.drew.mem.fresh _ rfl;have x0:=World.new_ne w _ c0;have x1:=World.new_ne w _ c1;have x3:=World.new_ne w _ e2;have hn2:(rd (D.word (af G 1))).1=2->(rd (D.word (af G 1))).2<=65535:=by
  intro h;have:=(wS (D.word (af G 1)) hx).2.1 h;omega
 have aX:D.run s (.own G)=if (rd (D.word (af G 1))).1=3 then (D.tick,some (.claim G (D.word (af G 1)))) else if (rd (D.word (af G 1))).1=2 then (D.tick,some (.ib G (D.word (af G 1)) (rd (D.word (af G 1))).2)) else (D.tick,some (.abort 14 2)):=by
  simp only[St.run]
 have uI:=zH aX;have TM:=zH hn2;generalize D.run s (.own G)=rr at*;have hl0:A.L w.heap.size=none:=hR.mem.fresh _ (zr _);have Jh:Hid (∀ E,aC A D.tick E->Grow A.L w A.L E->aC A D.tick (E.setCell (J w.heap.size 0) (zu (D.word (af G 1):Int)))∧Grow A.L w A.L (E.setCell (J w.heap.size 0) (zu (D.word (af G 1):Int)))):=fun E r g=>hR.ou r g rfl rfl (a:=(J w.heap.size 0)) (zr _) hl0 (zu (D.word (af G 1):Int))
 have HB:Hid (∀ Y,aC A D.tick Y->Grow A.L w A.L Y->zS Y b0 0 A.H 0∧zV Y b1 0 G∧zS Y b2 0 (A.bt s) 0∧zS Y b3 0 (A.bc s) 0):=fun Y q g=>⟨(B0.grow g).cell,(B1.grow g).cell,(B2.grow g).cell,(B3.grow g).cell⟩
 have HX:=zH (zA B0 (zA B1 (zA B2 B3)));have Tv:Hid (∀ Y,aC A D.tick Y->zk 97 #[R A.H 0,R (A.bt s) 0,R (A.bc s) 0,I 14,I 2] Y (bE A Y s (D.tick,.abort 14 2))):=fun Y q=>jC q s 14 2
 have VQ:Hid (∀ (x:Nat) Y,aC A D.tick Y->zk 156 #[R A.H 0,R (A.bt s) 0,R (A.bc s) 0,zu G,zu x] Y (bE A Y s (D.tick,.claim G x))):=fun x Y q=>zI q s G x
 clear hR aL hv hx hrd aX ht hsl B0 B1 B2 B3 hl0 hn2;generalize (rd (D.word (af G 1))).1=kd at*;generalize (rd (D.word (af G 1))).2=n at*;generalize D.word (af G 1)=x at*;go_enter Tryz.func155,Tryz.ntmps155;go_wp2_with fail
 go_region_held3 (fun E=>zS E b0 0 A.H 0∧zV E b1 0 G∧zS E A.H 2 A.ba 0)
  (first|exact⟨c0,c1,e2⟩|assumption|exact HKK.out _ q1 q4|exact HKK.out _ (q1.alloc _) (q4.trans (Grow.alloc _ _ _))|exact HKK.out _ (Jh.out _ q1 q4).1 (Jh.out _ q1 q4).2|go_keep)
  (first|(go_at_call 85;refine (TK.out _).mono ?_;rintro e E ⟨rfl,rfl⟩)|(go_at_call 42;refine (HL.out _ nT.out).mono ?_;rintro e Y ⟨rfl,q1,q2⟩;have q4:=HG.out.trans q2)|(go_at_call 42;refine (HL.out _ (nT.out.alloc _)).mono ?_;rintro e Y ⟨rfl,q1,q2⟩;have q4:=(HG.out.trans (Grow.alloc _ _ _)).trans q2;have FX:=zH (FC.out.grow q2);have nb:=FX.out.cell 0 (v:=zu 0) rfl;have nz:=FX.out.frozen 0))
 all_goals
  rename_i bD;clear bD x0 x1 x3 c0 c1 e2
  first
  | (have HZ := zH (zA (Jh.out _ q1 q4).1 (zA (Jh.out _ q1 q4).2 (FX.out.wF (zu (x : Int)))))
     clear FX nb nz q1 q4
     generalize hW:World.setCell _ _ _=W at *)
  | (have HZ := zH (zA (q1.alloc (.cells #[zu (x : Int)] 25)) (zA (q4.trans (Grow.alloc _ _ (.cells #[zu (x : Int)] 25))) (eP q1.mem.fresh (.cells #[zu (x : Int)] 25) rfl)))
     clear q1 q4
     generalize hW:Y.alloc _=W at *)
  have s5:=HZ.out.2.2.cell 0 (v:=zu x) rfl;clear q2 hW;have hn2:=TM.out;clear TM
  by_cases k3:kd=3
  . have HE:=zH (uI.out.trans (aV k3))
    obtain⟨fa1,fa2,fa3,fa4,fa5⟩:=uA (x:=kd) (c:=3) (ci:=3) (by omega);subst k3;clear hn2;go_wp2_with (first|(go_at_call 108;refine (FE.out _).mono ?_;rintro e w2 ⟨rfl,hq⟩;have gq:=Grow.below (L:=A.L) hq;obtain⟨r3,g3,f3⟩:=dA (HZ.out.1.below hq) #[I (3:Int),zu n] 217;have s0:=f3.cell 0 (v:=I (3:Int)) rfl;have s1:=f3.cell 1 (v:=zu n) rfl;have g4:=(HZ.out.2.1.trans gq).trans g3;have Yk:=((HZ.out.2.2.grow gq).grow g3).cell 0 (v:=zu x) rfl;obtain⟨d0,d1,d2,d3⟩:=HB.out _ r3 g4;have HF:=zH (zA r3 (zA g4 ((HZ.out.2.2.grow gq).grow g3)));clear r3 g3 f3 gq g4 hq)|(go_at_call 156;refine (VQ.out x _ HF.out.1).mono ?_;rintro e w4 ⟨A2,v,rfl,p1,p2,p3,p4⟩));go_ret;rw[HE.out];exact⟨A2,v,rfl,p1,HF.out.2.1.trans p2,p3,p4⟩
  . have OB:=zH (uI.out.trans (aR k3))
    obtain⟨fa1,fa2,fa3,fa4,fa5⟩:=rf (x:=kd) (c:=3) (ci:=3) (by omega)
    by_cases k2:kd=2
    . have HE:=zH (OB.out.trans (aV k2))
      have QI:=hn2 k2;have ew:IntKind.i64.wrap (n:Int)=(n:Int):=by rw[jG];omega
      obtain⟨K6,K7,K8,K9,We⟩:=uA (x:=kd) (c:=2) (ci:=2) (by omega);subst k2;clear hn2 QI k3;go_wp2_with (go_at_call 108;refine (FE.out _).mono ?_;rintro e w2 ⟨rfl,hq⟩;have gq:=Grow.below (L:=A.L) hq;obtain⟨r3,g3,f3⟩:=dA (HZ.out.1.below hq) #[I (2:Int),zu n] 217;have s0:=f3.cell 0 (v:=I (2:Int)) rfl;have s1:=f3.cell 1 (v:=zu n) rfl;have g4:=(HZ.out.2.1.trans gq).trans g3;have Yk:=((HZ.out.2.2.grow gq).grow g3).cell 0 (v:=zu x) rfl;obtain⟨d0,d1,d2,d3⟩:=HB.out _ r3 g4;have HF:=zH (zA r3 (zA g4 ((HZ.out.2.2.grow gq).grow g3)));clear r3 g3 f3 gq g4 hq);obtain⟨r5,g5,f5⟩:=dA HF.out.1 #[I n] 3;rw[kr] at f5;have gg:=HF.out.2.1.trans g5;have HY:=zH (zA r5 (zA gg (zA f5 (HF.out.2.2.grow g5))));go_ret;rw[HE.out];obtain⟨X0,X1,X2,X3⟩:=HX.out;obtain⟨r5,gg,f5,f6⟩:=HY.out;exact⟨A,_,rfl,r5,gg,bT.refl _ _,_,_,_,_,_,_,rfl,X0.grow gg,f5.box,X2.grow gg,X3.grow gg,X1.grow gg,f6.box⟩
    . have HE:=zH (OB.out.trans (aR k2))
      obtain⟨K6,K7,K8,K9,We⟩:=rf (x:=kd) (c:=2) (ci:=2) (by omega);clear k3 k2 hn2;go_wp2_with (first|(go_at_call 108;refine (FE.out _).mono ?_;rintro e w2 ⟨rfl,hq⟩;have gq:=Grow.below (L:=A.L) hq;obtain⟨r3,g3,f3⟩:=dA (HZ.out.1.below hq) #[I kd,zu n] 217;have s0:=f3.cell 0 (v:=I kd) rfl;have s1:=f3.cell 1 (v:=zu n) rfl;have g4:=(HZ.out.2.1.trans gq).trans g3;have Yk:=((HZ.out.2.2.grow gq).grow g3).cell 0 (v:=zu x) rfl;obtain⟨d0,d1,d2,d3⟩:=HB.out _ r3 g4;have HF:=zH (zA r3 (zA g4 ((HZ.out.2.2.grow gq).grow g3)));clear r3 g3 f3 gq g4 hq)|(go_at_call 97;refine (Tv.out _ HF.out.1).mono ?_;rintro e w4 ⟨A2,v,rfl,p1,p2,p3,p4⟩));go_ret;rw[HE.out];exact⟨A2,v,rfl,p1,HF.out.2.1.trans p2,p3,p4⟩
theorem Rq (hR:aC A D w) (s:Nat) (t:bL) (ht:D.aj.getD s none=some t) (G head at_:Nat) (hv0:G=0∨VL D G) (hva:VL D at_) (hp:iR D) (hx:D.word (af at_ 0)<18446744073709551616) (aL:D.count<4000000000000000000) (b0 b1 b2 b3 b4 b5:Nat)
 (B0:aN A.L w b0 (R A.H 0)) (B1:aN A.L w b1 (zu at_)) (B2:aN A.L w b2 (R (A.bt s) 0)) (B3:lM (kp A D s) A.L w b3 G head at_) (B4:aN A.L w b4 (R (A.bc s) 0)) (B5:aN A.L w b5 (zu G)):
 zk 173 #[R b0 0,R b1 0,R b2 0,R b3 0,R b4 0,R b5 0] w (kY A w s (D.run s (.free G head at_))):=by
 have hsl:=hR.sl;obtain⟨nv,X3,m0,m1,m2,m3,m4,m5,VN,N0,N1,N2,N3,N4,N5⟩:=B3;have c0:=B0.cell;have c1:=B1.cell;have e2:=hR.z2;have TK:=zH (eQ at_ 0 0 rfl hva.lo (by have:=hva.hi;omega) hva.u (by omega));have HL:Hid (∀ E,aC A D E->zk 42 #[R A.ba 0,I ((af at_ 0:Nat):Int)] E (vC A E D.tick (zu (D.word (af at_ 0):Int)))):=fun E r=>iJ r (af at_ 0) (dO hR hva.lo hva.hi (by omega)) aL
 have HKK:Hid (∀ E,aC A D.tick E->Grow A.L w A.L E->zS E b0 0 A.H 0∧zV E b1 0 at_∧zS E A.H 2 A.ba 0):=fun E r g=>⟨(B0.grow g).cell,(B1.grow g).cell,r.df 2 rfl⟩
 have hrd:=rQ (D.word (af at_ 0)) hx;have FE:=zH hrd;have nT:Hid (aC A D w.drew):=hR.drew;have HG:=zG A.L w;have FC:Hid (Fix A.L (w.drew.alloc (.cells #[I 0,zu 0] 217)) w.heap.size (.cells #[I 0,zu 0] 217)):=eP hR.drew.mem.fresh _ rfl;have x0:=World.new_ne w _ c0;have x1:=World.new_ne w _ c1;have x3:=World.new_ne w _ e2;generalize hkd:(rd (D.word (af at_ 0))).1=kd at*;generalize hn:(rd (D.word (af at_ 0))).2=n at*;have HST:Hid (∀ w2 b,aC A D.tick w2->Grow A.L w A.L w2->w.heap.size<=b->Fix A.L w2 b (.cells #[I 0,zu 0] 217)->aC A D.tick ((w2.setCell (J b 0) (I kd)).setCell (J b 1) (zu n))∧Grow A.L w A.L ((w2.setCell (J b 0) (I kd)).setCell (J b 1) (zu n))∧Fix A.L ((w2.setCell (J b 0) (I kd)).setCell (J b 1) (zu n)) b (.cells #[I kd,zu n] 217)):=fun w2 b r g hb fx=>hR.stamp r g rfl hb fx _ _
 have V8:Hid (∀ Y,Grow A.L w A.L Y->w.heap.size<=Y.heap.size):=fun Y g=>g.size
 have HB:Hid (∀ Y,aC A D.tick Y->Grow A.L w A.L Y->zS Y b0 0 A.H 0∧zS Y b2 0 (A.bt s) 0∧Y.cell? (J b3 0)=some nv∧zS Y b4 0 (A.bc s) 0∧zV Y b5 0 G∧zV Y (A.bt s) 3 t.aJ):=
  fun Y q g=>⟨(B0.grow g).cell,(B2.grow g).cell,(X3.grow g).cell,(B4.grow g).cell,(B5.grow g).cell,q.fw (s:=s) (t:=t) ht 3 rfl⟩
 have Qj:Hid (∀ Y,aC A D.tick Y->Grow A.L w A.L Y->zk 174 #[R A.H 0,R (A.bt s) 0,R (A.bc s) 0,zu G] Y (bE A Y s (D.tick.lost G))):=fun Y q g=>Da q s G (hv0.imp (fun h=>h) fun h=>⟨h.lo,h.hi,h.u⟩) ⟨hp.n,hp.free,hp.tag,hp.ja⟩
 have aX:D.run s (.free G head at_)=if kd=1∧n<=t.aJ then (D.tick,some (.next G head at_)) else if kd≠2 then ((D.tick.lost G).1,some (D.tick.lost G).2) else (D.tick,some (.dM G head at_ n)):=by
  have e:D.tick.t s=t:=cK ht;simp only[St.run,hkd,hn,e]
 have HX:Hid (aN A.L w b0 (R A.H 0)∧aN A.L w b1 (zu at_)∧aN A.L w b2 (R (A.bt s) 0)∧aN A.L w b3 nv∧aN A.L w b4 (R (A.bc s) 0)∧aN A.L w b5 (zu G)∧aN A.L w m0 (ptr (kp A D s).e)∧aN A.L w m1 (ptr (kp A D s).t)∧aN A.L w m2 (ptr (kp A D s).c)∧aN A.L w m3 (u64 G)∧aN A.L w m4 (u64 head)∧aN A.L w m5 (u64 at_)):=⟨B0,B1,B2,X3,B4,B5,N0,N1,N2,N3,N4,N5⟩
 subst VN;have uI:=zH aX;generalize D.run s (.free G head at_)=rr at*;clear hR aL hva hv0 hp hx hrd hkd hn aX ht hsl B0 B1 B2 X3 B4 B5 N0 N1 N2 N3 N4 N5;generalize t.aJ=bg at*;generalize D.word (af at_ 0)=x at*;go_enter Tryz.func173,Tryz.ntmps173;go_wp2_with fail
 go_region_held3 (fun E=>zS E b0 0 A.H 0∧zV E b1 0 at_∧zS E A.H 2 A.ba 0)
  (first|exact⟨c0,c1,e2⟩|assumption|exact HKK.out _ q1 q4|exact HKK.out _ (q1.alloc _) (q4.trans (Grow.alloc _ _ _))|exact HKK.out _ r2 g2|exact HKK.out _ (r2.alloc _) (g2.trans (Grow.alloc _ _ _))|exact HKK.out _ (HST.out _ _ r2 g2 hb FX.out).1 (HST.out _ _ r2 g2 hb FX.out).2.1|go_keep)
  (first|(go_at_call 85;refine (TK.out _).mono ?_;rintro e E ⟨rfl,rfl⟩)|(go_at_call 42;refine (HL.out _ nT.out).mono ?_;rintro e Y ⟨rfl,q1,q2⟩;have q4:=HG.out.trans q2)|(go_at_call 42;refine (HL.out _ (nT.out.alloc _)).mono ?_;rintro e Y ⟨rfl,q1,q2⟩;have q4:=(HG.out.trans (Grow.alloc _ _ _)).trans q2;have V9:=zH (FC.out.grow q2))|(go_at_call 108;refine (FE.out _).mono ?_;rintro e w2 ⟨rfl,hq⟩;have r2:=q1.below hq;have g2:=q4.trans (Grow.below hq);have FX:=zH (V9.out.grow (Grow.below hq));have hb:=zr w.heap.size;have Q5:=FX.out.cell 0 (v:=I 0) rfl;have Q6:=FX.out.cell 1 (v:=zu 0) rfl;have TN:=FX.out.frozen 0;have TP:=FX.out.frozen 1)|(go_at_call 108;refine (FE.out _).mono ?_;rintro e w2 ⟨rfl,hq⟩;have r2:=(q1.alloc _).below hq;have g2:=(q4.trans (Grow.alloc A.L _ _)).trans (Grow.below hq);have FX:=zH ((eP q1.mem.fresh (.cells #[I 0,zu 0] 217) rfl).grow (Grow.below (L:=A.L) hq));have hb:=V8.out _ q4;have Q5:=FX.out.cell 0 (v:=I 0) rfl;have Q6:=FX.out.cell 1 (v:=zu 0) rfl;have TN:=FX.out.frozen 0;have TP:=FX.out.frozen 1)|(go_at_call 108;refine (FE.out _).mono ?_;rintro e w2 ⟨rfl,hq⟩;have r2:=q1.below hq;have g2:=q4.trans (Grow.below hq)))
 all_goals
  rename_i bD;clear bD x0 x1 x3 c0 c1 e2
  first
  | (have HZ := zH (HST.out _ _ r2 g2 hb FX.out)
     clear FX hb Q5 Q6 TN TP r2 g2 q1 q4
     generalize hW:(World.setCell _ _ _).setCell _ _=W at *)
  | (have HZ := zH (zA (r2.alloc (.cells #[I (kd : Int), zu (n : Int)] 217)) (zA (g2.trans (Grow.alloc _ _ (.cells #[I (kd : Int), zu (n : Int)] 217))) (eP r2.mem.fresh (.cells #[I (kd : Int), zu (n : Int)] 217) rfl)))
     clear r2 g2 q1 q4
     generalize hW:w2.alloc _=W at *)
  obtain⟨r3,g3,f3⟩:=HZ.out;have s0:=f3.cell 0 (v:=I kd) rfl;have s1:=f3.cell 1 (v:=zu n) rfl;obtain⟨d0,d2,d3,d4,d5,t3⟩:=HB.out W r3 g3;clear f3 r3 g3 hW hq q2
  by_cases k1:kd=1
  . have fa1:((kd:Int)==1)=true:=by simp<;>omega
    have fa2:((kd:Int)=1)=True:=by simp<;>omega
    have fa3:(kd=1)=True:=by simp<;>omega
    have fa4:(kd==1)=true:=by simp<;>omega
    have fa5:((kd:Int) !=1)=false:=by simp<;>omega
    obtain⟨Ov,Ox,Oy,Oz,OA⟩:=rf (x:=kd) (c:=2) (ci:=2) (by omega)
    by_cases hna:n<=bg
    . have HE:=zH (uI.out.trans (aV ⟨k1,hna⟩))
      obtain⟨K6,K7,K8,K9⟩:=XP (x:=n) (c:=bg) (xi:=(n:Int)) (ci:=(bg:Int)) (by omega);subst k1;clear hna;go_wp2_with fail
      go_quiet (fail)
      go_wp2_with fail;go_ret;rw[HE.out];obtain⟨X0,X1,X2,X3,X4,X5,N0,N1,N2,N3,N4,N5⟩:=HX.out;have gg:=fun n=>HZ.out.2.1.trans (Grow.drewN _ _ n)
      exact⟨A,_,rfl,HZ.out.1.drewN _,gg _,bT.refl _ _,_,_,_,_,_,_,rfl,N0.grow (gg _),N1.grow (gg _),N2.grow (gg _),N3.grow (gg _),N4.grow (gg _),N5.grow (gg _)⟩
    . have HE:=zH ((uI.out.trans (aR (fun h=>hna h.2))).trans (aV (by omega)))
      obtain⟨K6,K7,K8,K9⟩:=XQ (x:=n) (c:=bg) (xi:=(n:Int)) (ci:=(bg:Int)) (by omega);subst k1;clear hna;go_wp2_with fail
      go_quiet (fail)
      go_wp2_with (go_at_call 174;refine (Qj.out _ (HZ.out.1.drewN _) (HZ.out.2.1.trans (Grow.drewN _ _ _))).mono ?_;rintro e w4 ⟨A2,v,rfl,p1,p2,p3,p4⟩);go_ret;rw[HE.out];exact⟨A2,v,rfl,p1,(HZ.out.2.1.trans (Grow.drewN _ _ _)).trans p2,p3,p4⟩
  . have OB:=zH (uI.out.trans (aR (fun h=>k1 h.1)))
    obtain⟨fa1,fa2,fa3,fa4,fa5⟩:=rf (x:=kd) (c:=1) (ci:=1) (by omega)
    by_cases k2:kd=2
    . have Ov:((kd:Int)==2)=true:=by simp<;>omega
      have Ox:((kd:Int)=2)=True:=by simp<;>omega
      have Oy:(kd=2)=True:=by simp<;>omega
      have Oz:(kd==2)=true:=by simp<;>omega
      have OA:((kd:Int) !=2)=false:=by simp<;>omega
      have HE:=zH (OB.out.trans (aR (fun h=>h k2)));subst k2;clear k1;go_wp2_with fail
      go_quiet (fail)
      go_wp2_with fail;go_ret;rw[HE.out];obtain⟨X0,X1,X2,X3,X4,X5,N0,N1,N2,N3,N4,N5⟩:=HX.out;have gd:=fun n=>Grow.drewN A.L W n
      have gg:=fun n=>HZ.out.2.1.trans (gd n)
      exact⟨A,_,rfl,HZ.out.1.drewN _,gg _,bT.refl _ _,_,_,_,_,_,_,rfl,X0.grow (gg _),⟨_,HZ.out.2.2.grow (gd _)⟩,X2.grow (gg _),⟨_,X3.grow (gg _),_,_,_,_,_,_,rfl,N0.grow (gg _),N1.grow (gg _),N2.grow (gg _),N3.grow (gg _),N4.grow (gg _),N5.grow (gg _)⟩,X4.grow (gg _),X5.grow (gg _)⟩
    . have HE:=zH (OB.out.trans (aV k2))
      obtain⟨Ov,Ox,Oy,Oz,OA⟩:=rf (x:=kd) (c:=2) (ci:=2) (by omega);clear k1 k2;go_wp2_with fail
      go_quiet (fail)
      go_wp2_with (go_at_call 174;refine (Qj.out _ (HZ.out.1.drewN _) (HZ.out.2.1.trans (Grow.drewN _ _ _))).mono ?_;rintro e w4 ⟨A2,v,rfl,p1,p2,p3,p4⟩);go_ret;rw[HE.out];exact⟨A2,v,rfl,p1,(HZ.out.2.1.trans (Grow.drewN _ _ _)).trans p2,p3,p4⟩
end Go.Proofs.YthicolbbmjfkfaaGreat.Em
