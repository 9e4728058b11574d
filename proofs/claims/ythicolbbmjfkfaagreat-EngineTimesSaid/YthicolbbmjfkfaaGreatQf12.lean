import Derived.Test.YthicolbbmjfkfaaGreatQf10
import Derived.Test.YthicolbbmjfkfaaGreatQf11
set_option linter.unusedVariables false
set_option linter.unusedSimpArgs false
set_option maxRecDepth 100000
set_option maxHeartbeats 1600000
namespace Go.Proofs.YthicolbbmjfkfaaGreat.Em
open Go.ChangeShapes Go.WideShapes Go.ChangeAt Go.RowKit En
variable {A:az} {D:St} {w:World}
theorem get_none (hR:aF A D w) (s:Nat) (t:bL) (ht:D.ai.getD s none=some t) (c:dY) (hc:D.calls.getD s none=some c) (hx:t.cell c.op.F=none):
 zk 94 #[R A.V 0,R (A.bt s) 0,R (A.bc s) 0] w (bG A w s (D,.start ⟨c.op.F,t.aJ,.get⟩)):=by
 obtain⟨r3,g3,_,_,_⟩:=jl hR #[R A.V 0] 32 #[R (A.bt s) 0] 100 #[R (A.bc s) 0] 105;have k1:=r3.call hc 1 (v:=I c.op.F) rfl;obtain⟨r4,g4,f0,f1,f2,f3⟩:=jK hR #[R A.V 0] 32 #[R (A.bt s) 0] 100 #[R (A.bc s) 0] 105 #[I c.op.F] 3;have a0:=f0.cell 0 (v:=R A.V 0) rfl;have a1:=f1.cell 0 (v:=R (A.bt s) 0) rfl;have a2:=f2.cell 0 (v:=R (A.bc s) 0) rfl;have a3:=f3.cell 0 (v:=I c.op.F) rfl;have a7:=r4.fI ht 7 (v:=.map (some (A.bm s))) rfl;have hlk:=fun n=>gF (r4.drewN n) ht c.op.F
 have hpx:A.px s t c.op.F=.pointer none:=by unfold az.px;rw[hx];rfl
 rw[hpx] at hlk;have ab:=r4.fI ht 3 (v:=zu t.aJ) rfl;have gd:=fun n=>(Grow.drewN A.L ((((w.alloc (.cells #[R A.V 0] 32)).alloc (.cells #[R (A.bt s) 0] 100)).alloc (.cells #[R (A.bc s) 0] 105)).alloc (.cells #[I c.op.F] 3)) n).trans (Grow.drew A.L _)
 have HF:=U (fun n=>zA (sH (r4.drewN n).drew s c.op.F t.aJ (.func (.func 115) #[] #[.pointer (some ⟨w.heap.size+1,0,none⟩),.pointer (some ⟨w.heap.size+1+1+1,0,none⟩),R w.heap.size 0,.pointer (some ⟨w.heap.size+1+1,0,none⟩)]) .get ⟨_,_,_,_,rfl,f1.box.grow (gd n),f3.box.grow (gd n),f0.box.grow (gd n),f2.box.grow (gd n)⟩) (g4.trans (gd n)));clear hR ht hc hx r3 g3 r4 g4 f0 f1 f2 f3 gd hpx;generalize c.op.F=F at*;generalize t.aJ=bg at*;go_enter Tryz.func94,Tryz.ntmps94;go_wp2_with fail;generalize (((w.alloc _).alloc _).alloc _).alloc _=w4 at*
 go_quiet (fail)
 go_wp2_with fail;generalize jg:w4.drewN _=w5;have e0:w5.cell? (J w.heap.size 0)=zs A.V 0:=by rw[<-jg];exact a0
 have e1:w5.cell? ⟨w.heap.size+1,0,none⟩=zs (A.bt s) 0:=by rw[<-jg];exact a1
 have e3:w5.cell? ⟨w.heap.size+1+1+1,0,none⟩=zt F:=by rw[<-jg];exact a3
 have eb:w5.cell? (J (A.bt s) 3)=zv bg:=by rw[<-jg];exact ab
 have Sa:∀ n,w4.drewN n=w5->zk 114 #[R A.V 0,R (A.bt s) 0,I F,zu bg,.func (.func 115) #[] #[.pointer (some ⟨w.heap.size+1,0,none⟩),.pointer (some ⟨w.heap.size+1+1+1,0,none⟩),R w.heap.size 0,.pointer (some ⟨w.heap.size+1+1,0,none⟩)]] w5.drew (bG A w5.drew s (D,.start ⟨F,bg,.get⟩))∧Grow A.L w A.L w5.drew:=fun n h=>by rw[<-h];exact HF.out n
 have Sb:=Sa _ jg;have Sc:=U Sb;clear a0 a1 a2 a3 a7 ab hlk HF Sa Sb jg;refine wp_region_still_tail 8 (by kernel_rfl) (by kernel_rfl) ?_;simp only[jZ,j6,kg,kr]
 repeat still_step
 refine wpStill_nil ?_;go_wp2_with (go_at_call 114;refine (Sc.out.1).mono ?_;rintro e w2 ⟨A2,v,rfl,p1,p2,p3,p4⟩);go_ret;exact⟨A2,v,rfl,p1,Sc.out.2.trans p2,p3,p4⟩
theorem Dq (hR:aF A D w) (s:Nat) (t:bL) (ht:D.ai.getD s none=some t) (c:dY) (hc:D.calls.getD s none=some c) (hmp:A.mp=0) (x:lg) (hx:t.cell c.op.F=some x) (h1:1<=t.id) (h2:t.id<=65535) (hp:iY D):
 zk 98 #[R A.V 0,R (A.bt s) 0,R (A.bc s) 0] w (bG A w s (rE D s t x c.op.kind)):=by
 obtain⟨r3,g3,_,_,_⟩:=jl hR #[R A.V 0] 32 #[R (A.bt s) 0] 100 #[R (A.bc s) 0] 105;have k1:=r3.call hc 1 (v:=I c.op.F) rfl;obtain⟨r4,g4,f0,f1,f2,f3⟩:=jK hR #[R A.V 0] 32 #[R (A.bt s) 0] 100 #[R (A.bc s) 0] 105 #[I c.op.F] 3;have a0:=f0.cell 0 (v:=R A.V 0) rfl;have a1:=f1.cell 0 (v:=R (A.bt s) 0) rfl;have a2:=f2.cell 0 (v:=R (A.bc s) 0) rfl;have a3:=f3.cell 0 (v:=I c.op.F) rfl;have a7:=r4.fI ht 7 (v:=.map (some (A.bm s))) rfl;have hlk:=fun n=>gF (r4.drewN n) ht c.op.F
 have hpx:A.px s t c.op.F=R (A.bx s c.op.F) 0:=by unfold az.px;rw[hx];rfl
 rw[hpx] at hlk;have HW:Hid (∀ n w5,((((w.alloc (.cells #[R A.V 0] 32)).alloc (.cells #[R (A.bt s) 0] 100)).alloc (.cells #[R (A.bc s) 0] 105)).alloc (.cells #[I c.op.F] 3)).drewN n=w5->zk 129 #[R A.V 0,R (A.bt s) 0,R (A.bc s) 0,R (A.bx s c.op.F) 0] w5 (bG A w5 s (rE D s t x c.op.kind))∧Grow A.L w A.L w5):=by
  rintro n w5 rfl;exact⟨De (r4.drewN n) s t ht c hc hmp x hx h1 h2 hp,g4.trans (Grow.drewN _ _ n)⟩
 clear hR ht hc hx r3 g3 r4 g4 f0 f1 f2 f3 hpx hmp h1 h2 hp;generalize rE D s t x c.op.kind=res at*;generalize A.bx s c.op.F=kx at*;generalize c.op.F=F at*;go_enter Tryz.func98,Tryz.ntmps98;go_wp2_with fail;generalize hw4:(((w.alloc _).alloc _).alloc _).alloc _=w4 at*
 go_quiet (fail)
 generalize jg:w4.drewN _=w5;have e0:w5.cell? (J w.heap.size 0)=zs A.V 0:=by rw[<-jg];exact a0
 have e1:w5.cell? ⟨w.heap.size+1,0,none⟩=zs (A.bt s) 0:=by rw[<-jg];exact a1
 have e2:w5.cell? ⟨w.heap.size+1+1,0,none⟩=zs (A.bc s) 0:=by rw[<-jg];exact a2
 have H5:=U (HW.out _ w5 jg);clear a0 a1 a2 a3 a7 hlk jg;go_wp2_with (go_at_call 129;refine (H5.out.1).mono ?_;rintro e w2 ⟨A2,v,rfl,p1,p2,p3,p4⟩);go_ret;exact⟨A2,v,rfl,p1,H5.out.2.trans p2,p3,p4⟩
theorem Kz (hR:aF A D w) (s:Nat) (t:bL) (ht:D.ai.getD s none=some t) (c:dY) (hc:D.calls.getD s none=some c) (x:lg) (hx:t.cell c.op.F=some x) (hth:x.there=false):
 zk 94 #[R A.V 0,R (A.bt s) 0,R (A.bc s) 0] w (bG A w s (D,.fin {e:=11})):=by
 obtain⟨r3,g3,_,_,_⟩:=jl hR #[R A.V 0] 32 #[R (A.bt s) 0] 100 #[R (A.bc s) 0] 105;have k1:=r3.call hc 1 (v:=I c.op.F) rfl;obtain⟨r4,g4,f0,f1,f2,f3⟩:=jK hR #[R A.V 0] 32 #[R (A.bt s) 0] 100 #[R (A.bc s) 0] 105 #[I c.op.F] 3;have a0:=f0.cell 0 (v:=R A.V 0) rfl;have a1:=f1.cell 0 (v:=R (A.bt s) 0) rfl;have a2:=f2.cell 0 (v:=R (A.bc s) 0) rfl;have a3:=f3.cell 0 (v:=I c.op.F) rfl;have a7:=r4.fI ht 7 (v:=.map (some (A.bm s))) rfl;have hlk:=fun n=>gF (r4.drewN n) ht c.op.F
 have hpx:A.px s t c.op.F=R (A.bx s c.op.F) 0:=by unfold az.px;rw[hx];rfl
 rw[hpx] at hlk;have HW:Hid (∀ n w5,((((w.alloc (.cells #[R A.V 0] 32)).alloc (.cells #[R (A.bt s) 0] 100)).alloc (.cells #[R (A.bc s) 0] 105)).alloc (.cells #[I c.op.F] 3)).drewN n=w5->zB w5 (A.bx s c.op.F) 2 false∧zk 113 #[R A.V 0,R (A.bc s) 0,.agg #[I 11,I 0,.slice none 0 0,I 0,I 0]] w5 (bG A w5 s (D,.fin {e:=11}))∧Grow A.L w A.L w5):=by
  rintro n w5 rfl;obtain⟨_,_,x2⟩:=(r4.drewN n).EF ht hx;rw[hth] at x2;exact⟨x2,jm (r4.drewN n) s {e:=11} 11 0 0 0 (.slice none 0 0) rfl (.inr ⟨rfl,rfl⟩),g4.trans (Grow.drewN _ _ n)⟩
 clear hR ht hc hx r3 g3 r4 g4 f0 f1 f2 f3 hpx hth;generalize A.bx s c.op.F=kx at*;generalize c.op.F=F at*;go_enter Tryz.func94,Tryz.ntmps94;go_wp2_with fail;generalize hw4:(((w.alloc _).alloc _).alloc _).alloc _=w4 at*
 go_quiet (fail)
 generalize jg:w4.drewN _=w5;have e0:w5.cell? (J w.heap.size 0)=zs A.V 0:=by rw[<-jg];exact a0
 have e1:w5.cell? ⟨w.heap.size+1,0,none⟩=zs (A.bt s) 0:=by rw[<-jg];exact a1
 have e2:w5.cell? ⟨w.heap.size+1+1,0,none⟩=zs (A.bc s) 0:=by rw[<-jg];exact a2
 obtain⟨x2,he,gg⟩:=HW.out _ w5 jg;have H5:=U (zA he gg);clear he gg;clear a0 a1 a2 a3 a7 hlk jg;go_wp2_with (go_at_call 113;refine (H5.out.1).mono ?_;rintro e w2 ⟨A2,v,rfl,p1,p2,p3,p4⟩);go_ret;exact⟨A2,v,rfl,p1,H5.out.2.trans p2,p3,p4⟩
theorem IM (hR:aF A D w) (s:Nat) (t:bL) (ht:D.ai.getD s none=some t) (c:dY) (hc:D.calls.getD s none=some c) (x:lg) (hx:t.cell c.op.F=some x) (hth:x.there=true) (hv:VL D x.own):
 zk 94 #[R A.V 0,R (A.bt s) 0,R (A.bc s) 0] w (bG A w s (D,.fin {value:=D.valueOf x.own})):=by
 obtain⟨r3,g3,_,_,_⟩:=jl hR #[R A.V 0] 32 #[R (A.bt s) 0] 100 #[R (A.bc s) 0] 105;have k1:=r3.call hc 1 (v:=I c.op.F) rfl;obtain⟨r4,g4,f0,f1,f2,f3⟩:=jK hR #[R A.V 0] 32 #[R (A.bt s) 0] 100 #[R (A.bc s) 0] 105 #[I c.op.F] 3;have a0:=f0.cell 0 (v:=R A.V 0) rfl;have a1:=f1.cell 0 (v:=R (A.bt s) 0) rfl;have a2:=f2.cell 0 (v:=R (A.bc s) 0) rfl;have a3:=f3.cell 0 (v:=I c.op.F) rfl;have a7:=r4.fI ht 7 (v:=.map (some (A.bm s))) rfl;have hlk:=fun n=>gF (r4.drewN n) ht c.op.F
 have hpx:A.px s t c.op.F=R (A.bx s c.op.F) 0:=by unfold az.px;rw[hx];rfl
 rw[hpx] at hlk;have HW:Hid (∀ n w5,((((w.alloc (.cells #[R A.V 0] 32)).alloc (.cells #[R (A.bt s) 0] 100)).alloc (.cells #[R (A.bc s) 0] 105)).alloc (.cells #[I c.op.F] 3)).drewN n=w5->zB w5 (A.bx s c.op.F) 2 true∧zV w5 (A.bx s c.op.F) 0 x.own∧zk 87 #[R A.V 0,zu x.own] w5.drew (fun e E=>e=.returned (.pointer (some ⟨A.bv,2*ag x.own,none⟩))∧E=w5.drew)∧w5.drew.cell? ⟨A.bv,2*ag x.own+1,none⟩=zt (D.valueOf x.own:Int)∧zk 113 #[R A.V 0,R (A.bc s) 0,.agg #[I 0,I (D.valueOf x.own:Int),.slice none 0 0,I 0,I 0]] w5.drew (bG A w5.drew s (D,.fin {value:=D.valueOf x.own}))∧Grow A.L w A.L w5.drew):=by
  rintro n w5 rfl;obtain⟨x0,_,x2⟩:=(r4.drewN n).EF ht hx;rw[hth] at x2;have q:=(r4.drewN n).drew;exact⟨x2,x0,flip (l9 q x.own hv.lo hv.hi hv.u),(q.val (iO hv)).2,jm q s {value:=D.valueOf x.own} 0 (D.valueOf x.own:Int) 0 0 (.slice none 0 0) rfl (.inr ⟨rfl,rfl⟩),g4.trans ((Grow.drewN _ _ n).trans (Grow.drew _ _))⟩
 clear hR ht hc hx r3 g3 r4 g4 f0 f1 f2 f3 hpx hth hv;generalize D.valueOf x.own=va at*;generalize A.bx s c.op.F=kx at*;generalize c.op.F=F at*;generalize 2*ag x.own=iv at*;generalize x.own=ow at*;go_enter Tryz.func94,Tryz.ntmps94;go_wp2_with fail;generalize hw4:(((w.alloc _).alloc _).alloc _).alloc _=w4 at*
 go_quiet (fail)
 generalize jg:w4.drewN _=w5;have e0:w5.cell? (J w.heap.size 0)=zs A.V 0:=by rw[<-jg];exact a0
 have e1:w5.cell? ⟨w.heap.size+1,0,none⟩=zs (A.bt s) 0:=by rw[<-jg];exact a1
 have e2:w5.cell? ⟨w.heap.size+1+1,0,none⟩=zs (A.bc s) 0:=by rw[<-jg];exact a2
 obtain⟨x2,x0,hd,hv,he,gg⟩:=HW.out _ w5 jg;have HD:=U hd;have H5:=U (zA he gg);clear hd he gg;clear a0 a1 a2 a3 a7 hlk jg;go_wp2_with fail;refine wp_region_still_tail 12 (by kernel_rfl) (by kernel_rfl) ?_;simp only[jZ,j6,kg,kr]
 repeat still_step
 still_call HD.out
 repeat still_step
 refine wpStill_nil ?_;change wpList _ _ _ _ _ w5.drew;generalize w5.drew=wd at*;go_wp2_with (go_at_call 113;refine (H5.out.1).mono ?_;rintro e w2 ⟨A2,v,rfl,p1,p2,p3,p4⟩);go_ret;exact⟨A2,v,rfl,p1,H5.out.2.trans p2,p3,p4⟩
theorem Od (hR:aF A D w) (s:Nat) (t:bL) (ht:D.ai.getD s none=some t) (i l at_ F G b0 b1 b2 b3 b4:Nat) (B0:nI A.L w b0 l) (B1:aP A.L w b1 (R A.V 0)) (B2:aP A.L w b2 (R (A.bt s) 0)) (B3:aP A.L w b3 (R (A.bc s) 0)) (B4:aP A.L w b4 (I i)) (hi:i+1<=t.reads.length) (hrl:t.reads.length<1000000):
 zk 145 #[zu G,R b0 0,R b1 0,R b2 0,R b3 0,R b4 0] w (bG A w s (D.thn s ⟨F,at_,.judge i l⟩ G)):=by
 obtain⟨T0,k0,g0,F0⟩:=B0;have c0:=F0.cell 1 (v:=zu l) rfl;have c1:=B1.cell;have c2:=B2.cell;have c3:=B3.cell;have c4:=B4.cell;have n1:IntKind.i64.wrap ((i:Int)+1)=(i:Int)+1:=by rw[je];omega
 have e1:D.thn s ⟨F,at_,.judge i l⟩ G=if G≠l then (D,.abort 14 3) else (D,dH t (i+1)):=by simp only[St.thn,cK ht]
 rw[e1];have hj:zk 122 #[R A.V 0,R (A.bt s) 0,R (A.bc s) 0,I ((i:Int)+1)] w (bG A w s (D,dH t (i+1))):=yU hR s t ht (i+1) hi hrl;have ha:zk 97 #[R A.V 0,R (A.bt s) 0,R (A.bc s) 0,I 14,I 3] w (bG A w s (D,.abort 14 3)):=jM hR s 14 3;have HJ:=U hj;have HA:=U ha;clear hj ha hR ht F0 B1 B2 B3 B4 hi hrl e1
 by_cases hl:G=l
 . rw[bu (fun h=>h hl)]
   obtain⟨Te,Tf,Tg,Ti,Tj⟩:=rT (x:=G) (c:=l) (ci:=(l:Int)) (by omega);clear hl;go_enter Tryz.func145,Tryz.ntmps145;go_wp2_with (go_at_call 122;refine HJ.out.mono ?_;rintro e w2 ⟨A2,v,rfl,p1,p2,p3,p4⟩);go_ret;exact⟨A2,v,rfl,p1,p2,p3,p4⟩
 . rw[aW hl]
   obtain⟨Te,Tf,Tg,Ti,Tj⟩:=qE (x:=G) (c:=l) (ci:=(l:Int)) (by omega);clear hl;go_enter Tryz.func145,Tryz.ntmps145;go_wp2_with (go_at_call 97;refine HA.out.mono ?_;rintro e w2 ⟨A2,v,rfl,p1,p2,p3,p4⟩);go_ret;exact⟨A2,v,rfl,p1,p2,p3,p4⟩
def QM (A:az) (w:World) (s:Nat) (bF:St):Ending->World->Prop:=fun e E=>e=.returned (.tuple #[])∧∃ A',aF A' bF E∧Grow A.L w A'.L E∧bU A A' s∧A'.bx=A.bx
theorem PN:(Tryz.prog.info? 152).map (fun i=>(i.zero,i.size,i.bytes))=some (some (.agg #[I 0,I 0]),2,16):=by kernel_rfl
theorem uV (l:List (Nat×Nat)) (F n:Nat):bQ (l++[(F,n)])=bQ l++[I F,I n]:=by simp[bQ,two]
theorem zh (hR:aF A D w) (s:Nat) (c:dY) (hc:D.calls.getD s none=some c) (F n b0 b1:Nat) (B0:aP A.L w b0 (R (A.bc s) 0)) (B1:aP A.L w b1 (I F)) (hn:c.r.aL.length<1000000):
 zk 117 #[I n,R b0 0,R b1 0] w (QM A w s (D.tell s F n)):=by
 have c0:=B0.cell;have c1:=B1.cell;have k7:w.cell? (J (A.bc s) 7)=some (A.aX s):=hR.call hc 7 rfl;obtain⟨r1,g1,_⟩:=dz hR #[I F,I n] 152;have aY:=r1.mem.all (.aL s);rw[iM hc] at aY;have ho:(w.alloc (.cells #[I F,I n] 152)).ownsRow 0 152 2 (A.aX s) c.r.aL.length (bQ c.r.aL):=aY.1;obtain⟨av,jB,hv,_⟩:=Ow.bO ho;have d0:(w.alloc (.cells #[I F,I n] 152)).cell? (J b0 0)=zs (A.bc s) 0:=(B0.grow g1).cell;have d1:(w.alloc (.cells #[I F,I n] 152)).cell? (J b1 0)=zt F:=(B1.grow g1).cell;have d7:(w.alloc (.cells #[I F,I n] 152)).cell? (J (A.bc s) 7)=some (A.aX s):=r1.call hc 7 rfl;have e:D.tell s F n=D.aM s {c with r:={c.r with aL:=c.r.aL++[(F,n)]}}:=by unfold St.tell;rw[bC hc]
 rw[e]
 have FN : Hid (∀ v' w2, w2.ownsRow 0 152 2 v' (c.r.aL.length + 1) (bQ c.r.aL ++ [I (F : Int), I (n : Int)]) -> (w.alloc (.cells #[I (F : Int), I (n : Int)] 152)).grownBy w2 (A.aX s).ownBlock -> (v'.ownBlock = (A.aX s).ownBlock ∨ ∀ g, v'.ownBlock = some g -> (w.alloc (.cells #[I (F : Int), I (n : Int)] 152)).heap.size <= g) ->
     (∃ A',aF A' (D.aM s {c with r:={c.r with aL:=c.r.aL++[(F,n)]}}) (w2.setCell (J (A.bc s) 7) v')∧Grow A.L w A'.L (w2.setCell (J (A.bc s) 7) v')∧bU A A' s∧A'.bx=A.bx)∧w2.cell? (J (A.bc s) 7)=some (A.aX s)∧w2.frozen? (J (A.bc s) 7)=false∧zS w2 b0 0 (A.bc s) 0∧zT w2 b1 0 F):=by
  intro v' w2 q1 q2 q3;obtain⟨k1,k2,k3,k4⟩:=r1.M8 hc (c.r.aL++[(F,n)]) v' q2 (by rw[uV,jb];exact q1) q3;refine⟨⟨_,k1,g1.trans k2,⟨rfl,rfl,rfl,rfl,rfl,rfl,rfl,rfl,rfl,rfl,rfl,fun _ _=>rfl,fun k Y=>bJ _ _ Y⟩,rfl⟩,k3,k4,?_⟩;have hne:∀ b v,aP A.L (w.alloc (.cells #[I F,I n] 152)) b v->w2.cell? (J b 0)=some v:=by
   intro b v Z;refine q2.cell Z.cell fun e=>?_
   have:=aY.2 b e.symm;obtain⟨_,hf⟩:=Z;rw[hf.1] at this
   cases this
  exact⟨hne _ _ (B0.grow g1),hne _ _ (B1.grow g1)⟩
 rw[hv] at k7 d7 ho FN;have HO:=U ho;have HK:Hid (∀ v':Value,True):=fun _=>trivial
 clear hR hc B0 B1 r1 g1 aY ho e;generalize hln:c.r.aL.length=len at*;have HN:=U hn;clear hln hn;generalize bQ c.r.aL=xs at*;obtain⟨ii,hii,hz0,hz1,hz2⟩:=info_parts PN;go_enter Tryz.func117,Tryz.ntmps117;go_wp2_with fail
 go_region_law (first|(refine Ow.jH _ (.tmp 9) (.tmp 13) 44 rfl 0 _ ii _ 2 16 Tryz.underlying44 hii hz0 hz1 hz2 rfl (by decide) (.slice av len jB) len xs rfl HO.out (J w.heap.size 0) 1 1 (by omega) [I F,I n] rfl rfl (by intro j u hu;exact Ow.iC w [I F,I n] _ _ rfl j u hu) (by intro u hu;simp at hu;rcases hu with rfl|rfl<;>rfl) (by have:=HN.out;unfold maxLen;omega) (by have:=HN.out;omega) (zz _) ?_;intro v' w2 q1 q2 q3;obtain⟨x1,x2,x3,x4,x5⟩:=FN.out v' w2 q1 (rq q2) q3;obtain⟨a4,cap4,rfl,_⟩:=Ow.bO q1;have R1:=U x1;clear x1 q1 q2 q3))
 all_goals (go_end0;exact⟨rfl,R1.out⟩)
def wK (D:St) (t:bL):Prop:=∀ F x,t.cell F=some x->x.there=true->VL D x.own
theorem Fj (s n:Nat) (D:St) (F:Nat) (h:¬ (D.c s).op.hi<F) (hx:(D.t s).cell F=none):iH s (n+1) D F=(D,.start ⟨F,(D.t s).aJ,.scan F⟩):=by unfold iH;rw[bu h,hx]
theorem Fp (s n:Nat) (D:St) (F:Nat) (x:lg) (h:¬ (D.c s).op.hi<F) (hx:(D.t s).cell F=some x):iH s (n+1) D F=iH s n (if x.there then D.tell s F (D.valueOf x.own) else D) (F+1):=by
 conv=>lhs;unfold iH
 rw[bu h,hx]
theorem KA (hR:aF A D w) (s:Nat) (t:bL) (ht:D.ai.getD s none=some t) (c:dY) (hc:D.calls.getD s none=some c) (F:Nat) (Y:c.op.hi<F):
 zk 95 #[R A.V 0,R (A.bt s) 0,R (A.bc s) 0,I F] w (bG A w s (D,.fin c.r)):=by
 obtain⟨r5,g5,f0,f1,f2,f3,f4⟩:=jL hR #[R A.V 0] 32 #[R (A.bt s) 0] 100 #[R (A.bc s) 0] 105 #[I F] 3 #[.func (.func 117) #[] #[.pointer (some ⟨w.heap.size+1+1,0,none⟩),.pointer (some ⟨w.heap.size+1+1+1,0,none⟩)]] 230;have a0:=f0.cell 0 (v:=R A.V 0) rfl;have a1:=f1.cell 0 (v:=R (A.bt s) 0) rfl;have a2:=f2.cell 0 (v:=R (A.bc s) 0) rfl;have a3:=f3.cell 0 (v:=I F) rfl;have a4:=f4.cell 0 (v:=.func (.func 117) #[] #[.pointer (some ⟨w.heap.size+1+1,0,none⟩),.pointer (some ⟨w.heap.size+1+1+1,0,none⟩)]) rfl;have a7:=r5.fI ht 7 (v:=.map (some (A.bm s))) rfl;have ah:=r5.call hc 2 (v:=I c.op.hi) rfl;have hlk:=fun n=>gF (r5.drewN n) ht F
 obtain⟨pv,hpv⟩:∃ pv,A.px s t F=.pointer pv:=by unfold az.px;split<;>exact⟨_,rfl⟩
 rw[hpv] at hlk;have aY:=(hR.mem.all (.aL s))
 rw[iM hc] at aY;obtain⟨pa,yw,hvp,_⟩:=Ow.bO aY.1
 have HW : Hid (∀ w6, Below (((((w.alloc (.cells #[R A.V 0] 32)).alloc (.cells #[R (A.bt s) 0] 100)).alloc (.cells #[R (A.bc s) 0] 105)).alloc (.cells #[I (F : Int)] 3)).alloc (.cells #[.func (.func 117) #[] #[.pointer (some ⟨w.heap.size + 1 + 1, 0, none⟩), .pointer (some ⟨w.heap.size + 1 + 1 + 1, 0, none⟩)]] 230)).heap.size (((((w.alloc (.cells #[R A.V 0] 32)).alloc (.cells #[R (A.bt s) 0] 100)).alloc (.cells #[R (A.bc s) 0] 105)).alloc (.cells #[I (F : Int)] 3)).alloc (.cells #[.func (.func 117) #[] #[.pointer (some ⟨w.heap.size + 1 + 1, 0, none⟩), .pointer (some ⟨w.heap.size + 1 + 1 + 1, 0, none⟩)]] 230)) w6 -> zS w6 w.heap.size 0 A.V 0 ∧ w6.cell? ⟨w.heap.size + 1 + 1, 0, none⟩ =zs (A.bc s) 0 ∧ zT w6 (A.bc s) 5 (c.r.e : Int) ∧ zT w6 (A.bc s) 6 (c.r.value : Int) ∧ w6.cell? (J (A.bc s) 7) = some (A.aX s) ∧ zT w6 (A.bc s) 8 (c.r.over : Int) ∧ zT w6 (A.bc s) 9 (c.r.aI : Int) ∧
     zk 113 #[R A.V 0,R (A.bc s) 0,.agg #[I c.r.e,I c.r.value,A.aX s,I c.r.over,I c.r.aI]] w6.drew (bG A w6.drew s (D,.fin c.r))∧Grow A.L w A.L w6.drew):=by
  intro w6 Z;have q:=r5.below Z;have gd:=Grow.below (L:=A.L) Z;have g:=g5.trans gd;exact⟨(f0.grow gd).cell 0 rfl,(f2.grow gd).cell 0 rfl,q.call hc 5 rfl,q.call hc 6 rfl,q.call hc 7 rfl,q.call hc 8 rfl,q.call hc 9 rfl,jm q.drew s c.r c.r.e c.r.value c.r.over c.r.aI (A.aX s) rfl (.inl ⟨rfl,by rw[bC hc]⟩),g.trans (Grow.drew _ _)⟩
 rw[hvp] at HW;clear hR ht hc r5 g5 f0 f1 f2 f3 f4 hpv aY hvp;generalize c.op.hi=hi at*;obtain⟨Vw,Vx,Vy,Vz⟩:=UW (x:=hi) (c:=F) (xi:=(hi:Int)) (ci:=(F:Int)) (by omega);clear Y;go_enter Tryz.func95,Tryz.ntmps95;go_wp2_with fail;generalize jg:((((w.alloc _).alloc _).alloc _).alloc _).alloc _=w5 at*
 go_quiet (fail)
 go_wp2_with fail
 go_quiet (fail)
 first|generalize pW:(w5.drewN _).drewN _=w6|generalize pW:w5.drewN _=w6
 have hb6:Below w5.heap.size w5 w6:=by rw[<-pW];exact⟨rfl,rfl,rfl,zr _,fun _ _=>rfl⟩
 obtain⟨e0,e2,k5,k6,k7,k8,k9,he,gg⟩:=HW.out w6 hb6;have HE:=U (zA he gg);clear a0 a1 a2 a3 a4 a7 ah hlk pW hb6 he gg;go_wp2_with fail;refine wp_region_still_tail 6 (by kernel_rfl) (by kernel_rfl) ?_;simp only[jZ,j6,kg,kr]
 repeat still_step
 refine wpStill_nil ?_;change wpList _ _ _ _ _ w6.drew;generalize w6.drew=wd at*;go_wp2_with (go_at_call 113;refine HE.out.1.mono ?_;rintro e w2 ⟨A2,v,rfl,p1,p2,p3,p4⟩);go_ret;exact⟨A2,v,rfl,p1,HE.out.2.trans p2,p3,p4⟩
theorem IP (hR:aF A D w) (s:Nat) (t:bL) (ht:D.ai.getD s none=some t) (c:dY) (hc:D.calls.getD s none=some c) (F:Nat) (Y:¬ c.op.hi<F) (hx:t.cell F=none):
 zk 95 #[R A.V 0,R (A.bt s) 0,R (A.bc s) 0,I F] w (bG A w s (D,.start ⟨F,t.aJ,.scan F⟩)):=by
 obtain⟨r5,g5,f0,f1,f2,f3,f4⟩:=jL hR #[R A.V 0] 32 #[R (A.bt s) 0] 100 #[R (A.bc s) 0] 105 #[I F] 3 #[.func (.func 117) #[] #[.pointer (some ⟨w.heap.size+1+1,0,none⟩),.pointer (some ⟨w.heap.size+1+1+1,0,none⟩)]] 230;have a0:=f0.cell 0 (v:=R A.V 0) rfl;have a1:=f1.cell 0 (v:=R (A.bt s) 0) rfl;have a2:=f2.cell 0 (v:=R (A.bc s) 0) rfl;have a3:=f3.cell 0 (v:=I F) rfl;have a4:=f4.cell 0 (v:=.func (.func 117) #[] #[.pointer (some ⟨w.heap.size+1+1,0,none⟩),.pointer (some ⟨w.heap.size+1+1+1,0,none⟩)]) rfl;have a7:=r5.fI ht 7 (v:=.map (some (A.bm s))) rfl;have ah:=r5.call hc 2 (v:=I c.op.hi) rfl;have hlk:=fun n=>gF (r5.drewN n) ht F
 have hpx:A.px s t F=.pointer none:=by unfold az.px;rw[hx];rfl
 rw[hpx] at hlk
 have HW : Hid (∀ w6, Below (((((w.alloc (.cells #[R A.V 0] 32)).alloc (.cells #[R (A.bt s) 0] 100)).alloc (.cells #[R (A.bc s) 0] 105)).alloc (.cells #[I (F : Int)] 3)).alloc (.cells #[.func (.func 117) #[] #[.pointer (some ⟨w.heap.size + 1 + 1, 0, none⟩), .pointer (some ⟨w.heap.size + 1 + 1 + 1, 0, none⟩)]] 230)).heap.size (((((w.alloc (.cells #[R A.V 0] 32)).alloc (.cells #[R (A.bt s) 0] 100)).alloc (.cells #[R (A.bc s) 0] 105)).alloc (.cells #[I (F : Int)] 3)).alloc (.cells #[.func (.func 117) #[] #[.pointer (some ⟨w.heap.size + 1 + 1, 0, none⟩), .pointer (some ⟨w.heap.size + 1 + 1 + 1, 0, none⟩)]] 230)) w6 -> zS w6 w.heap.size 0 A.V 0 ∧ w6.cell? ⟨w.heap.size + 1, 0, none⟩ =zs (A.bt s) 0 ∧ w6.cell? ⟨w.heap.size + 1 + 1 + 1, 0, none⟩ =zt (F : Int) ∧ zV w6 (A.bt s) 3 (t.aJ : Int) ∧
     zk 114 #[R A.V 0,R (A.bt s) 0,I F,zu t.aJ,.func (.func 118) #[] #[.pointer (some ⟨w.heap.size+1,0,none⟩),.pointer (some ⟨w.heap.size+1+1+1,0,none⟩),.pointer (some ⟨w.heap.size+1+1+1+1,0,none⟩),R w.heap.size 0,.pointer (some ⟨w.heap.size+1+1,0,none⟩)]] w6.drew (bG A w6.drew s (D,.start ⟨F,t.aJ,.scan F⟩))∧Grow A.L w A.L w6.drew):=by
  intro w6 Z;have q:=r5.below Z;have gd:=Grow.below (L:=A.L) Z;have ge:=gd.trans (Grow.drew A.L _);exact⟨(f0.grow gd).cell 0 rfl,(f1.grow gd).cell 0 rfl,(f3.grow gd).cell 0 rfl,q.fI ht 3 rfl,sH q.drew s F t.aJ (.func (.func 118) #[] #[.pointer (some ⟨w.heap.size+1,0,none⟩),.pointer (some ⟨w.heap.size+1+1+1,0,none⟩),.pointer (some ⟨w.heap.size+1+1+1+1,0,none⟩),R w.heap.size 0,.pointer (some ⟨w.heap.size+1+1,0,none⟩)]) (.scan F) ⟨_,_,_,_,_,rfl,f1.box.grow ge,f3.box.grow ge,⟨_,f4.box.grow ge,_,_,rfl,f2.box.grow ge,f3.box.grow ge⟩,f0.box.grow ge,f2.box.grow ge⟩,g5.trans ge⟩
 clear hR ht hc r5 g5 f0 f1 f2 f3 f4 hpx hx;generalize c.op.hi=hi at*;generalize t.aJ=bg at*;obtain⟨Vw,Vx,Vy,Vz⟩:=UX (x:=hi) (c:=F) (xi:=(hi:Int)) (ci:=(F:Int)) (by omega);clear Y;go_enter Tryz.func95,Tryz.ntmps95;go_wp2_with fail;generalize jg:((((w.alloc _).alloc _).alloc _).alloc _).alloc _=w5 at*
 go_quiet (fail)
 go_wp2_with fail
 go_quiet (fail)
 first|generalize pW:(w5.drewN _).drewN _=w6|generalize pW:w5.drewN _=w6
 have hb6:Below w5.heap.size w5 w6:=by rw[<-pW];exact⟨rfl,rfl,rfl,zr _,fun _ _=>rfl⟩
 obtain⟨e0,e1,e3,eb,he,gg⟩:=HW.out w6 hb6;have HE:=U (zA he gg);clear a0 a1 a2 a3 a4 a7 ah hlk pW hb6 he gg;go_wp2_with fail;refine wp_region_still_tail 8 (by kernel_rfl) (by kernel_rfl) ?_;simp only[jZ,j6,kg,kr]
 repeat still_step
 refine wpStill_nil ?_;change wpList _ _ _ _ _ w6.drew;generalize w6.drew=wd at*;go_wp2_with (go_at_call 114;refine HE.out.1.mono ?_;rintro e w2 ⟨A2,v,rfl,p1,p2,p3,p4⟩);go_ret;exact⟨A2,v,rfl,p1,HE.out.2.trans p2,p3,p4⟩
theorem IQ (hR:aF A D w) (s:Nat) (t:bL) (ht:D.ai.getD s none=some t) (c:dY) (hc:D.calls.getD s none=some c) (F:Nat) (Y:¬ c.op.hi<F) (Oe:F<=63) (x:lg) (hx:t.cell F=some x) (hth:x.there=false) (res:St×K) (hrec:∀ (A':az) (E:World),aF A' D E->bU A A' s->A'.bx=A.bx->zk 95 #[R A.V 0,R (A.bt s) 0,R (A.bc s) 0,I ((F:Int)+1)] E (bG A' E s res)):
 zk 95 #[R A.V 0,R (A.bt s) 0,R (A.bc s) 0,I F] w (bG A w s res):=by
 obtain⟨r5,g5,f0,f1,f2,f3,f4⟩:=jL hR #[R A.V 0] 32 #[R (A.bt s) 0] 100 #[R (A.bc s) 0] 105 #[I F] 3 #[.func (.func 117) #[] #[.pointer (some ⟨w.heap.size+1+1,0,none⟩),.pointer (some ⟨w.heap.size+1+1+1,0,none⟩)]] 230;have a0:=f0.cell 0 (v:=R A.V 0) rfl;have a1:=f1.cell 0 (v:=R (A.bt s) 0) rfl;have a2:=f2.cell 0 (v:=R (A.bc s) 0) rfl;have a3:=f3.cell 0 (v:=I F) rfl;have a4:=f4.cell 0 (v:=.func (.func 117) #[] #[.pointer (some ⟨w.heap.size+1+1,0,none⟩),.pointer (some ⟨w.heap.size+1+1+1,0,none⟩)]) rfl;have a7:=r5.fI ht 7 (v:=.map (some (A.bm s))) rfl;have ah:=r5.call hc 2 (v:=I c.op.hi) rfl;have hlk:=fun n=>gF (r5.drewN n) ht F
 have hpx:A.px s t F=R (A.bx s F) 0:=by unfold az.px;rw[hx];rfl
 rw[hpx] at hlk;have n1:IntKind.i64.wrap ((F:Int)+1)=(F:Int)+1:=by rw[je];omega
 have HW : Hid (∀ w6, Below (((((w.alloc (.cells #[R A.V 0] 32)).alloc (.cells #[R (A.bt s) 0] 100)).alloc (.cells #[R (A.bc s) 0] 105)).alloc (.cells #[I (F : Int)] 3)).alloc (.cells #[.func (.func 117) #[] #[.pointer (some ⟨w.heap.size + 1 + 1, 0, none⟩), .pointer (some ⟨w.heap.size + 1 + 1 + 1, 0, none⟩)]] 230)).heap.size (((((w.alloc (.cells #[R A.V 0] 32)).alloc (.cells #[R (A.bt s) 0] 100)).alloc (.cells #[R (A.bc s) 0] 105)).alloc (.cells #[I (F : Int)] 3)).alloc (.cells #[.func (.func 117) #[] #[.pointer (some ⟨w.heap.size + 1 + 1, 0, none⟩), .pointer (some ⟨w.heap.size + 1 + 1 + 1, 0, none⟩)]] 230)) w6 -> zS w6 w.heap.size 0 A.V 0 ∧ w6.cell? ⟨w.heap.size + 1, 0, none⟩ =zs (A.bt s) 0 ∧ w6.cell? ⟨w.heap.size + 1 + 1, 0, none⟩ =zs (A.bc s) 0 ∧ w6.cell? ⟨w.heap.size + 1 + 1 + 1, 0, none⟩ =zt (F : Int) ∧ zB w6 (A.bx s F) 2 false ∧
     zk 95 #[R A.V 0,R (A.bt s) 0,R (A.bc s) 0,I ((F:Int)+1)] w6 (bG A w6 s res)∧Grow A.L w A.L w6):=by
  intro w6 Z;have q:=r5.below Z;have gd:=Grow.below (L:=A.L) Z;obtain⟨_,_,x2⟩:=q.EF ht hx;rw[hth] at x2;exact⟨(f0.grow gd).cell 0 rfl,(f1.grow gd).cell 0 rfl,(f2.grow gd).cell 0 rfl,(f3.grow gd).cell 0 rfl,x2,hrec A _ q (bU.refl _ _) rfl,g5.trans gd⟩
 clear hR ht hc r5 g5 f0 f1 f2 f3 f4 hpx hx hth hrec Oe;generalize c.op.hi=hi at*;generalize A.bx s F=kx at*;obtain⟨Vw,Vx,Vy,Vz⟩:=UX (x:=hi) (c:=F) (xi:=(hi:Int)) (ci:=(F:Int)) (by omega);clear Y;go_enter Tryz.func95,Tryz.ntmps95;go_wp2_with fail;generalize jg:((((w.alloc _).alloc _).alloc _).alloc _).alloc _=w5 at*
 go_quiet (fail)
 go_wp2_with fail
 go_quiet (fail)
 first|generalize pW:(w5.drewN _).drewN _=w6|generalize pW:w5.drewN _=w6
 have hb6:Below w5.heap.size w5 w6:=by rw[<-pW];exact⟨rfl,rfl,rfl,zr _,fun _ _=>rfl⟩
 obtain⟨e0,e1,e2,e3,x2,he,gg⟩:=HW.out w6 hb6;have HE:=U (zA he gg);clear a0 a1 a2 a3 a4 a7 ah hlk pW hb6 he gg;go_wp2_with (go_at_call 95;refine HE.out.1.mono ?_;rintro e w2 ⟨A2,v,rfl,p1,p2,p3,p4⟩);go_ret;exact⟨A2,v,rfl,p1,HE.out.2.trans p2,p3,p4⟩
theorem IU (hR:aF A D w) (s:Nat) (t:bL) (ht:D.ai.getD s none=some t) (c:dY) (hc:D.calls.getD s none=some c) (F:Nat) (Y:¬ c.op.hi<F) (Oe:F<=63) (x:lg) (hx:t.cell F=some x) (hth:x.there=true) (hv:VL D x.own) (hpl:c.r.aL.length<1000000) (res:St×K) (hrec:∀ (A':az) (E:World),aF A' (D.tell s F (D.valueOf x.own)) E->bU A A' s->A'.bx=A.bx->zk 95 #[R A.V 0,R (A.bt s) 0,R (A.bc s) 0,I ((F:Int)+1)] E (bG A' E s res)):
 zk 95 #[R A.V 0,R (A.bt s) 0,R (A.bc s) 0,I F] w (bG A w s res):=by
 obtain⟨r5,g5,f0,f1,f2,f3,f4⟩:=jL hR #[R A.V 0] 32 #[R (A.bt s) 0] 100 #[R (A.bc s) 0] 105 #[I F] 3 #[.func (.func 117) #[] #[.pointer (some ⟨w.heap.size+1+1,0,none⟩),.pointer (some ⟨w.heap.size+1+1+1,0,none⟩)]] 230;have a0:=f0.cell 0 (v:=R A.V 0) rfl;have a1:=f1.cell 0 (v:=R (A.bt s) 0) rfl;have a2:=f2.cell 0 (v:=R (A.bc s) 0) rfl;have a3:=f3.cell 0 (v:=I F) rfl;have a4:=f4.cell 0 (v:=.func (.func 117) #[] #[.pointer (some ⟨w.heap.size+1+1,0,none⟩),.pointer (some ⟨w.heap.size+1+1+1,0,none⟩)]) rfl;have a7:=r5.fI ht 7 (v:=.map (some (A.bm s))) rfl;have ah:=r5.call hc 2 (v:=I c.op.hi) rfl;have hlk:=fun n=>gF (r5.drewN n) ht F
 have hpx:A.px s t F=R (A.bx s F) 0:=by unfold az.px;rw[hx];rfl
 rw[hpx] at hlk;have n1:IntKind.i64.wrap ((F:Int)+1)=(F:Int)+1:=by rw[je];omega
 have HW : Hid (∀ w6, Below (((((w.alloc (.cells #[R A.V 0] 32)).alloc (.cells #[R (A.bt s) 0] 100)).alloc (.cells #[R (A.bc s) 0] 105)).alloc (.cells #[I (F : Int)] 3)).alloc (.cells #[.func (.func 117) #[] #[.pointer (some ⟨w.heap.size + 1 + 1, 0, none⟩), .pointer (some ⟨w.heap.size + 1 + 1 + 1, 0, none⟩)]] 230)).heap.size (((((w.alloc (.cells #[R A.V 0] 32)).alloc (.cells #[R (A.bt s) 0] 100)).alloc (.cells #[R (A.bc s) 0] 105)).alloc (.cells #[I (F : Int)] 3)).alloc (.cells #[.func (.func 117) #[] #[.pointer (some ⟨w.heap.size + 1 + 1, 0, none⟩), .pointer (some ⟨w.heap.size + 1 + 1 + 1, 0, none⟩)]] 230)) w6 -> zS w6 w.heap.size 0 A.V 0 ∧ w6.cell? ⟨w.heap.size + 1 + 1 + 1 + 1, 0, none⟩ = some (.func (.func 117) #[] #[.pointer (some ⟨w.heap.size + 1 + 1, 0, none⟩), .pointer (some ⟨w.heap.size + 1 + 1 + 1, 0, none⟩)]) ∧ zB w6 (A.bx s F) 2 true ∧ zV w6 (A.bx s F) 0 (x.own : Int) ∧
     zk 87 #[R A.V 0,zu x.own] w6.drew (fun e E=>e=.returned (.pointer (some ⟨A.bv,2*ag x.own,none⟩))∧E=w6.drew)∧w6.drew.cell? ⟨A.bv,2*ag x.own+1,none⟩=zt (D.valueOf x.own:Int)∧
     zk 117 #[I (D.valueOf x.own:Int),.pointer (some ⟨w.heap.size+1+1,0,none⟩),.pointer (some ⟨w.heap.size+1+1+1,0,none⟩)] w6.drew (QM A w6.drew s (D.tell s F (D.valueOf x.own)))∧Grow A.L w A.L w6.drew∧
     ∀ (A':az) E,Grow A.L w6.drew A'.L E->zS E w.heap.size 0 A.V 0∧E.cell? ⟨w.heap.size+1,0,none⟩=zs (A.bt s) 0∧E.cell? ⟨w.heap.size+1+1,0,none⟩=zs (A.bc s) 0∧E.cell? ⟨w.heap.size+1+1+1,0,none⟩=zt F):=by
  intro w6 Z;have q:=r5.below Z;have gd:=Grow.below (L:=A.L) Z;have ge:=gd.trans (Grow.drew A.L _);obtain⟨x0,_,x2⟩:=q.EF ht hx;rw[hth] at x2;exact⟨(f0.grow gd).cell 0 rfl,(f4.grow gd).cell 0 rfl,x2,x0,flip (l9 q.drew x.own hv.lo hv.hi hv.u),(q.drew.val (iO hv)).2,zh q.drew s c hc F (D.valueOf x.own) _ _ (f2.box.grow ge) (f3.box.grow ge) hpl,g5.trans ge,fun A' E g=>⟨((f0.grow ge).grow g).cell 0 rfl,((f1.grow ge).grow g).cell 0 rfl,((f2.grow ge).grow g).cell 0 rfl,((f3.grow ge).grow g).cell 0 rfl⟩⟩
 have VA:=U hrec;clear hR ht hc r5 g5 f0 f1 f2 f3 f4 hpx hx hth hrec Oe hv hpl;generalize D.tell s F (D.valueOf x.own)=aC at*;generalize D.valueOf x.own=va at*;generalize 2*ag x.own=iv at*;generalize x.own=ow at*;generalize c.op.hi=hi at*;generalize A.bx s F=kx at*;obtain⟨Vw,Vx,Vy,Vz⟩:=UX (x:=hi) (c:=F) (xi:=(hi:Int)) (ci:=(F:Int)) (by omega);clear Y;go_enter Tryz.func95,Tryz.ntmps95;go_wp2_with fail;generalize jg:((((w.alloc _).alloc _).alloc _).alloc _).alloc _=w5 at*
 go_quiet (fail)
 go_wp2_with fail
 go_quiet (fail)
 first|generalize pW:(w5.drewN _).drewN _=w6|generalize pW:w5.drewN _=w6
 have hb6:Below w5.heap.size w5 w6:=by rw[<-pW];exact⟨rfl,rfl,rfl,zr _,fun _ _=>rfl⟩
 obtain⟨e0,e4,x2,x0,hd,v1,ht,gg,hz⟩:=HW.out w6 hb6;have HD:=U hd;have HT:=U ht;have HG:=U gg;have HZ:=U hz;clear a0 a1 a2 a3 a4 a7 ah hlk pW hb6 hd ht gg hz;go_wp2_with fail;refine wp_region_still_tail 10 (by kernel_rfl) (by kernel_rfl) ?_;simp only[jZ,j6,kg,kr]
 repeat still_step
 still_call HD.out
 repeat still_step
 refine wpStill_nil ?_;change wpList _ _ _ _ _ w6.drew;generalize w6.drew=wd at*;go_wp2_with (first|(go_at_call 117;refine HT.out.mono ?_;rintro e w2 ⟨rfl,A2,p1,p2,p3,p4⟩;obtain⟨e0,e1,e2,e3⟩:=HZ.out A2 w2 p2;have HR:=U (VA.out A2 w2 p1 p3 p4);have HQ:=U (zA (HG.out.trans p2) p3);clear p1 p2 p3 p4)|(go_at_call 95;refine HR.out.mono ?_;rintro e w3 ⟨A3,v,rfl,p1,p2,p3,p4⟩));go_ret;exact⟨A3,v,rfl,p1,HQ.out.1.trans p2,HQ.out.2.trans p3,p4⟩
theorem Fq (s:Nat):∀ (n:Nat) {A:az} {D:St} {w:World} (hR:aF A D w) (t:bL) (ht:D.ai.getD s none=some t) (c:dY) (hc:D.calls.getD s none=some c) (F:Nat) (hnk:n=c.op.hi+1 - F) (Og:F<=64) (hhi:c.op.hi<=63) (hcx:wK D t) (hpl:c.r.aL.length+n<1000000),
 zk 95 #[R A.V 0,R (A.bt s) 0,R (A.bc s) 0,I F] w (bG A w s (iH s n D F)):=by
 intro n
 induction n with
 |zero=>
  intro A D w hR t ht c hc F hnk Og hhi hcx hpl;have h:=KA hR s t ht c hc F (by omega);have e:iH s 0 D F=(D,.fin c.r):=by unfold iH;rw[bC hc]
  rw[e];exact h
 |succ n ih=>
  intro A D w hR t ht c hc F hnk Og hhi hcx hpl;have ec:=bC hc;have et:=cK ht;have Y:¬ c.op.hi<F:=by omega
  cases hx:t.cell F with
  |none=>
   have h:=IP hR s t ht c hc F Y hx;rw[Fj s n D F (by rw[ec];exact Y) (by rw[et];exact hx),et];exact h
  |some x=>
   rw[Fp s n D F x (by rw[ec];exact Y) (by rw[et];exact hx)]
   cases hth:x.there with
   |false=>
    rw[bu (by decide)];refine IQ hR s t ht c hc F Y (by omega) x hx hth _ fun A' E r st bx=>?_
    have h:=ih r t ht c hc (F+1) (by omega) (by omega) hhi hcx (by omega);rw[st.V,st.bt,st.bc] at h;exact h
   |true=>
    rw[aW rfl];refine IU hR s t ht c hc F Y (by omega) x hx hth (hcx F x hx hth) (by omega) _ fun A' E r st bx=>?_
    have hc2:(D.tell s F (D.valueOf x.own)).calls.getD s none=some {c with r:={c.r with aL:=c.r.aL++[(F,D.valueOf x.own)]}}:=by
     unfold St.tell;rw[ec,di (bR hc),aW rfl]
    have h:=ih r t ht _ hc2 (F+1) (by simp only;omega) (by omega) hhi (fun k y hy hty=>let q:=hcx k y hy hty;⟨q.lo,q.hi,q.u⟩) (by simp only[jb,List.length_cons,List.length_nil];omega);rw[st.V,st.bt,st.bc] at h;exact h
theorem wL (hR:aF A D w) (s:Nat) (t:bL) (ht:D.ai.getD s none=some t) (c:dY) (hc:D.calls.getD s none=some c) (F:Nat) (Og:F<=64) (hhi:c.op.hi<=63) (hcx:wK D t) (hpl:c.r.aL.length<100000):
 zk 95 #[R A.V 0,R (A.bt s) 0,R (A.bc s) 0,I F] w (bG A w s (D.scan s F)):=by
 have h:=Fq s (c.op.hi+1 - F) hR t ht c hc F rfl Og hhi hcx (by omega);unfold St.scan;rw[bC hc];exact h
theorem QN (hR:aF A D w) (s:Nat) (t:bL) (ht:D.ai.getD s none=some t) (c:dY) (hc:D.calls.getD s none=some c) (F G at_ b0 b1 b2 b3 b4:Nat) (B0:aP A.L w b0 (R (A.bt s) 0)) (B1:aP A.L w b1 (I F)) (B2:nK (kp A D s) A.L w b2 F) (B3:aP A.L w b3 (R A.V 0)) (B4:aP A.L w b4 (R (A.bc s) 0)) (hl:G=0∨VL D G) (Y:F<=63) (hhi:c.op.hi<=63) (hcx:wK D t) (hpl:c.r.aL.length<100000 - 1) (hn:t.reads.length<1000000):
 zk 118 #[zu G,R b0 0,R b1 0,R b2 0,R b3 0,R b4 0] w (bG A w s (D.thn s ⟨F,at_,.scan F⟩ G)):=by
 obtain⟨vt,X2,m0,m1,Tk,N0,N1⟩:=B2;have c0:=B0.cell;have c1:=B1.cell;have n1:IntKind.i64.wrap ((F:Int)+1)=(F:Int)+1:=by rw[je];omega
 have hr:=mW hR s t ht F G false hn;have HR:=U hr;have ht1:∀ bF:St,bF=D.read s F G false->∃ t',bF.ai.getD s none=some t'∧t'.cells=t.cells:=by
  rintro bF rfl;refine⟨{t with reads:=t.reads++[(F,G,false)]},?_,rfl⟩;unfold St.read;rw[dB (dA ht),aW rfl,cK ht]
 have qm:(D.read s F G false).aG=D.aG:=rfl;have oZ:(D.read s F G false).calls=D.calls:=rfl;have PO:(D.read s F G false).valueOf G=D.valueOf G:=rfl;have QO:∀ (bF:St) (t':bL),bF.aG=D.aG->t'.cells=t.cells->wK bF t':=by
  intro bF t' h1 h2 k y hy hty;have q:=hcx k y (by unfold bL.cell at hy ⊢;rw[<-h2];exact hy) hty;exact⟨q.lo,by rw[h1];exact q.hi,q.u⟩
 have hlt:=bR hc;obtain⟨aC,mD⟩:∃ aC,aC=D.read s F G false:=⟨_,rfl⟩
 obtain⟨t1,ht1',htc⟩:=ht1 aC mD;rw[<-mD] at qm oZ PO HR;have e1:D.thn s ⟨F,at_,.scan F⟩ G=(if G=0 then aC else aC.tell s F (aC.valueOf G)).scan s (F+1):=by simp only[St.thn,<-mD]
 rw[e1];have HB:Hid (∀ (A1:az) H,Grow A.L w A1.L H->zS H b0 0 (A.bt s) 0∧zT H b1 0 F∧H.cell? (J b2 0)=some vt∧zS H b3 0 A.V 0∧zS H b4 0 (A.bc s) 0):=fun A1 H g=>⟨(B0.grow g).cell,(B1.grow g).cell,(X2.grow g).cell,(B3.grow g).cell,(B4.grow g).cell⟩
 have hc1:aC.calls.getD s none=some c:=by rw[oZ];exact hc
 have Xu:Hid (∀ (A1:az) H,aF A1 aC H->bU A A1 s->zk 95 #[R A.V 0,R (A.bt s) 0,R (A.bc s) 0,I ((F:Int)+1)] H (bG A1 H s (aC.scan s (F+1)))):=by
  intro A1 H r st;have h:=wL r s t1 ht1' c hc1 (F+1) (by omega) hhi (QO aC t1 qm htc) (by omega);rw[st.V,st.bt,st.bc] at h;exact h
 have VB:Hid (G≠0->∀ (A1:az) H,aF A1 aC H->Grow A.L w A1.L H->bU A A1 s->zk 87 #[R A.V 0,zu G] H.drew (fun e E=>e=.returned (.pointer (some ⟨A1.bv,2*ag G,none⟩))∧E=H.drew)∧H.drew.cell? ⟨A1.bv,2*ag G+1,none⟩=zt (aC.valueOf G:Int)∧zk 117 #[I (aC.valueOf G:Int),ptr m0,ptr m1] H.drew (QM A1 H.drew s (aC.tell s F (aC.valueOf G)))):=by
  intro h0 A1 H r g st;have hv:=hl.resolve_left h0;have hv1:VL aC G:=⟨hv.lo,by rw[qm];exact hv.hi,hv.u⟩
  have gd:=g.trans (Grow.drew _ _);have hd:=flip (l9 r.drew G hv1.lo hv1.hi hv1.u);rw[st.V] at hd;have Yv:aP A1.L H.drew m0 (ptr (A1.bc s)):=by
   have:=N0.grow gd;show aP A1.L H.drew m0 (ptr (A1.bc s));rw[st.bc];exact this
  exact⟨hd,(r.drew.val (iO hv1)).2,zh r.drew s c hc1 F (aC.valueOf G) m0 m1 Yv (N1.grow gd) (by omega)⟩
 have HS2:Hid (∀ (A1:az) H,aF A1 (aC.tell s F (aC.valueOf G)) H->bU A A1 s->zk 95 #[R A.V 0,R (A.bt s) 0,R (A.bc s) 0,I ((F:Int)+1)] H (bG A1 H s ((aC.tell s F (aC.valueOf G)).scan s (F+1)))):=by
  intro A1 H r st;have hc2:(aC.tell s F (aC.valueOf G)).calls.getD s none=some {c with r:={c.r with aL:=c.r.aL++[(F,aC.valueOf G)]}}:=by
   unfold St.tell;rw[bC hc1,di (bR hc1),aW rfl]
  have h:=wL r s t1 ht1' _ hc2 (F+1) (by omega) hhi (QO _ t1 qm htc) (by simp only[jb,List.length_cons,List.length_nil];omega);rw[st.V,st.bt,st.bc] at h;exact h
 clear hR ht hc hl Y hhi hcx hpl hn hr ht1 qm oZ PO QO hlt e1 hc1 htc ht1' B0 B1 X2 B3 B4 N0 N1 mD;subst Tk;generalize aC.valueOf G=va at*
 by_cases h0:G=0
 . rw[aW h0]
   obtain⟨Te,Tf,Tg,Ti,Tj⟩:=rT (x:=G) (c:=0) (ci:=0) (by omega);clear h0 VB HS2;go_enter Tryz.func118,Tryz.ntmps118;go_wp2_with (first|(go_at_call 116;refine HR.out.mono ?_;rintro e H ⟨rfl,A1,q1,q2,q3,q4,q5⟩;obtain⟨d0,d1,d2,d3,d4⟩:=HB.out A1 H q2;have HQ:=U (zA q1 (zA q2 q3));have VC:=U (Xu.out A1 H q1 q3);clear q1 q2 q3 q4 q5)|(go_at_call 95;refine VC.out.mono ?_;rintro e w2 ⟨A2,v,rfl,p1,p2,p3,p4⟩));go_ret;exact⟨A2,v,rfl,p1,HQ.out.2.1.trans p2,HQ.out.2.2.trans p3,p4⟩
 . rw[bu h0]
   obtain⟨Te,Tf,Tg,Ti,Tj⟩:=qE (x:=G) (c:=0) (ci:=0) (by omega);have HT0:=U (VB.out h0);clear h0 VB Xu;go_enter Tryz.func118,Tryz.ntmps118;go_wp2_with (go_at_call 116;refine HR.out.mono ?_;rintro e H ⟨rfl,A1,q1,q2,q3,q4,q5⟩;obtain⟨d0,d1,d2,d3,d4⟩:=HB.out A1 H q2;have HQ:=U (zA q1 (zA q2 q3));clear q1 q2 q3 q4 q5);obtain⟨hd,hv,ht⟩:=HT0.out A1 H HQ.out.1 HQ.out.2.1 HQ.out.2.2;have HD:=U hd;have HT:=U ht;clear hd ht;go_wp2_with fail;refine wp_region_still_tail 7 (by kernel_rfl) (by kernel_rfl) ?_;simp only[jZ,j6,kg,kr]
   repeat still_step
   still_call HD.out
   repeat still_step
   refine wpStill_nil ?_;change wpList _ _ _ _ _ H.drew;have Oc:=U (HQ.out.2.1.trans (Grow.drew A1.L H));generalize H.drew=wd at*;go_wp2_with (first|(go_at_call 117;refine HT.out.mono ?_;rintro e w2 ⟨rfl,A2,p1,p2,p3,p4⟩;obtain⟨d0,d1,d2,d3,d4⟩:=HB.out A2 w2 (Oc.out.trans p2);have VC:=U (HS2.out A2 w2 p1 (HQ.out.2.2.trans p3));have HY:=U (zA (Oc.out.trans p2) (HQ.out.2.2.trans p3));clear p1 p2 p3 p4)|(go_at_call 95;refine VC.out.mono ?_;rintro e w3 ⟨A3,v,rfl,p1,p2,p3,p4⟩));go_ret;exact⟨A3,v,rfl,p1,HY.out.1.trans p2,HY.out.2.trans p3,p4⟩
end Go.Proofs.YthicolbbmjfkfaaGreat.Em
