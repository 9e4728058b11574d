import Derived.Test.YthicolbbmjfkfaaGreatQh4
import Derived.Test.YthicolbbmjfkfaaGreatQh5
set_option linter.unusedVariables false
set_option linter.unusedSimpArgs false
set_option maxRecDepth 100000
set_option maxHeartbeats 1600000
namespace Go.Proofs.YthicolbbmjfkfaaGreat.Em
open Go.ChangeShapes Go.WideShapes Go.ChangeAt Go.RowKit En
variable {A:au} {D:St} {w:World}
theorem Grow.mg {L L':cZ} {w G:World} (g:Grow L w L' G) {a:Addr} (h:w.heap.size<=a.block) (v:Value):Grow L w L' (G.setCell a v):=
 ⟨g.os,g.tape,g.output,by simpa [World.setCell] using g.size,fun b Z hl=>(Below.heap_setCell _ _ _ _ (by omega)).trans (g.block b Z hl),g.lab,fun b Z hl=>(Below.heap_setCell _ _ _ _ (by omega)).trans (g.keep b Z hl)⟩
theorem aD.mg {A A1:au} {D aH:St} {w H:World} (hR:aD A D w) (h1:aD A1 aH H) (g:Grow A.L w A1.L H) (ht:aH.aP=D.aP) (hcs:A1.fH=A.fH) {a:Addr} (Z:w.heap.size<=a.block) (hl:A1.L a.block=none) (v:Value):
 aD A1 aH (H.setCell a v)∧Grow A.L w A1.L (H.setCell a v):=
 ⟨⟨h1.mem.IU hl v,by rw[ht,hcs];exact hR.ev.grow (g.mg Z v),h1.sl,h1.nw,h1.nt,h1.nv,h1.n8,h1.nc⟩,g.mg Z v⟩
theorem Fix.setOther {L:cZ} {w:World} {b:Nat} {o:Obj} (h:Fix L w b o) {a:Addr} (hne:b≠a.block) (v:Value):Fix L (w.setCell a v) b o:=⟨h.1,(Below.heap_setCell _ _ _ _ hne).trans h.2⟩
theorem Fix.sU {L:cZ} {w:World} {b:Nat} {u:Value} {T:TypeId} (h:Fix L w b (.cells #[u] T)) (v:Value):Fix L (w.setCell (J b 0) v) b (.cells #[v] T):=by
 refine⟨h.1,?_⟩;have:=h.2;simp only[World.setCell,Array.getElem?_modify,this];simp
theorem Fix.frozen {L:cZ} {w:World} {b:Nat} {cs:Array Value} {T:TypeId} (h:Fix L w b (.cells cs T)) (i:Nat):w.frozen? (J b i)=false:=by
 unfold World.frozen?
 simp only[h.2];simp
theorem Jl {D:St} {l:Nat} (hfree:∀ i∈D.list.free,i<D.aC) (hs:D.aC<=256) (htag:∀ i,i<D.aC->(D.tags.getD i (0,false)).1<=65535) (h:D.take.2=some l):VL D.take.1 l∧D.take.1.aC=D.aC:=by
 have hsl:D.list.aC=D.aC:=by unfold St.list;split<;>rfl
 have Gf:D.list.tags=D.tags:=by unfold St.list;split<;>rfl
 cases hlast:D.list.free.getLast? with
 |none=>rw[wN hlast] at h;cases h
 |some i=>
  rw[wO hlast] at h ⊢;have hi:=hfree i (List.mem_of_getLast? hlast);have ht:=htag i hi;simp only[Option.some.injEq] at h;subst h;refine⟨⟨?_,?_,?_⟩,hsl⟩
  all_goals
   unfold St.iU pJ;rw[Gf]
   first|omega|(dsimp only;omega)
def _root_.Go.Proofs.YthicolbbmjfkfaaGreat.En.St.lay (D:St) (s l:Nat):St:={D with values:=D.values.set (aj l) ((D.c s).op.E,(D.c s).op.value)}
theorem ug {D:St} {s:Nat} {x:Bool} {head:Nat} (h:D.take.2=none):D.slot s x 0 head=(D.take.1,.abort 14 5):=by
 unfold St.slot;simp only[aV];generalize D.take=p at *;obtain⟨a,b⟩:=p;simp only at h;subst h;rfl
theorem uh {D:St} {s:Nat} {x:Bool} {head l:Nat} (h:D.take.2=some l):D.slot s x 0 head=(D.take.1.lay s l,.dX x l head):=by
 unfold St.slot;simp only[aV];generalize D.take=p at *;obtain⟨a,b⟩:=p;simp only at h;subst h;rfl
theorem Ez {D:St} {s:Nat} {x:Bool} {head l:Nat} (h:l≠0):D.slot s x l head=(D.lay s l,.dX x l head):=by
 unfold St.slot;rw[aX h];rfl
theorem DD (hR:aD A D w) (s:Nat) (c:dF) (hc:D.calls.getD s none=some c) (l:Nat) (hv:VL D l):
 w.there A.bv (2*aj l) 2∧aD A (D.lay s l) (w.setCells A.bv (2*aj l) [I c.op.E,I c.op.value])∧Grow A.L w A.L (w.setCells A.bv (2*aj l) [I c.op.E,I c.op.value]):=by
 obtain⟨r1,g1⟩:=hR.LA (iw hv) c.op.E c.op.value;refine⟨fun j hj=>⟨?_,hR.Oi _⟩,by unfold St.lay;rw[aU hc];exact r1,g1⟩
 match j,hj with
 |0,_=>rw[Nat.add_zero,(hR.val (iw hv)).1];rfl
 |1,_=>rw[(hR.val (iw hv)).2];rfl
theorem pQ (hR:aD A D w) (s:Nat) (c:dF) (hc:D.calls.getD s none=some c) (x:Bool) (F head:Nat) (hv:Value) (hh:dQ A.L w 1 hv (if x then [] else [u64 head])) (hv0:F=0∨VL D F)
 (hm:A.mp=0) (hn:D.free.length<100000) (hfree:∀ i∈D.list.free,i<D.aC) (htag:∀ i,i<D.aC->(D.tags.getD i (0,false)).1<=65535):
 zk 151 #[R A.Y 0,R (A.bt s) 0,R (A.bc s) 0,(kp A D s).xo x,zu F,hv] w (aZ A w s (D.slot s x F head)):=by
 obtain⟨px,hx⟩:∃ px,(kp A D s).xo x=.pointer px:=by unfold KP.xo;split<;>exact⟨_,rfl⟩
 obtain⟨ha,hn1,hcap,Um⟩:∃ a n cap,hv=.slice a n cap:=⟨_,_,_,hh.choose_spec.choose_spec.choose_spec.1⟩
 rw[hx];subst Um;obtain⟨r6,g6,f0,f1,f2,f3,f4,f5⟩:=Dv hR #[R A.Y 0] 32 #[R (A.bt s) 0] 100 #[R (A.bc s) 0] 105 #[.pointer px] 223 #[zu F] 25 #[.slice ha hn1 hcap] 260;have NC:=hh.grow g6;have k0:=f0.cell 0 rfl;have k1:=f1.cell 0 rfl;have k2:=f2.cell 0 rfl;have k4:=f4.cell 0 rfl
 by_cases h0:F=0
 . have ou:D.take.1.aC=D.aC:=by unfold St.take;simp only;split<;>(unfold St.list;split<;>rfl)
   have zX:D.take.1.aP=D.aP:=by unfold St.take;simp only;split<;>(unfold St.list;split<;>rfl)
   have mX:D.take.1.calls=D.calls:=by unfold St.take;simp only;split<;>(unfold St.list;split<;>rfl)
   have e3:=r6.eH 3 (v:=R A.bp 0) rfl;have hz:((F:Int)==0)=true:=by simpa using h0
   have hz2:((F:Int)=0)=True:=by simpa using h0
   have HT:=U (Gd r6 hm hn hfree htag);have FACT:∀ L1 v1 m1 H,aD {A with L:=L1,eO:=v1,mp:=m1} D.take.1 H->Grow A.L ((((((w.alloc (.cells #[R A.Y 0] 32)).alloc (.cells #[R (A.bt s) 0] 100)).alloc (.cells #[R (A.bc s) 0] 105)).alloc (.cells #[.pointer px] 223)).alloc (.cells #[zu F] 25)).alloc (.cells #[.slice ha hn1 hcap] 260)) L1 H->∀ l:Nat,zS H w.heap.size 0 A.Y 0∧H.cell? ⟨w.heap.size+4,0,none⟩=zv F∧H.frozen? ⟨w.heap.size+4,0,none⟩=false∧
    (H.setCell ⟨w.heap.size+4,0,none⟩ (zu l)).cell? (J w.heap.size 0)=zs A.Y 0∧(H.setCell ⟨w.heap.size+4,0,none⟩ (zu l)).cell? ⟨w.heap.size+1,0,none⟩=zs (A.bt s) 0∧(H.setCell ⟨w.heap.size+4,0,none⟩ (zu l)).cell? ⟨w.heap.size+2,0,none⟩=zs (A.bc s) 0∧(H.setCell ⟨w.heap.size+4,0,none⟩ (zu l)).cell? ⟨w.heap.size+4,0,none⟩=zv l∧
    (H.setCell ⟨w.heap.size+4,0,none⟩ (zu l)).cell? (J (A.bc s) 1)=zt c.op.E∧(H.setCell ⟨w.heap.size+4,0,none⟩ (zu l)).cell? (J (A.bc s) 3)=zt c.op.value∧
    aD {A with L:=L1,eO:=v1,mp:=m1} D.take.1 (H.setCell ⟨w.heap.size+4,0,none⟩ (zu l))∧Grow A.L w L1 (H.setCell ⟨w.heap.size+4,0,none⟩ (zu l))∧
    aK L1 (H.setCell ⟨w.heap.size+4,0,none⟩ (zu l)) w.heap.size (R A.Y 0)∧aK L1 (H.setCell ⟨w.heap.size+4,0,none⟩ (zu l)) (w.heap.size+4) (zu l)∧aK L1 (H.setCell ⟨w.heap.size+4,0,none⟩ (zu l)) (w.heap.size+1) (R (A.bt s) 0)∧aK L1 (H.setCell ⟨w.heap.size+4,0,none⟩ (zu l)) (w.heap.size+3) (.pointer px)∧aK L1 (H.setCell ⟨w.heap.size+4,0,none⟩ (zu l)) (w.heap.size+2) (R (A.bc s) 0)∧aK L1 (H.setCell ⟨w.heap.size+4,0,none⟩ (zu l)) (w.heap.size+5) (.slice ha hn1 hcap)∧dQ L1 (H.setCell ⟨w.heap.size+4,0,none⟩ (zu l)) 1 (.slice ha hn1 hcap) (if x then [] else [u64 head]):=by
    intro L1 v1 m1 H q1 q2 l;have j0:=f0.grow q2;have j1:=f1.grow q2;have j2:=f2.grow q2;have j3:=f3.grow q2;have j4:=f4.grow q2;have j5:=f5.grow q2;obtain⟨r7,g7⟩:=hR.mg q1 (g6.trans q2) zX rfl (a:=⟨w.heap.size+4,0,none⟩) (by show w.heap.size<=w.heap.size+4;omega) j4.1 (zu l);have i0:=j0.setOther (a:=⟨w.heap.size+4,0,none⟩) (by show w.heap.size≠w.heap.size+4;omega) (zu l);have i1:=j1.setOther (a:=⟨w.heap.size+4,0,none⟩) (by show w.heap.size+1≠w.heap.size+4;omega) (zu l);have i2:=j2.setOther (a:=⟨w.heap.size+4,0,none⟩) (by show w.heap.size+2≠w.heap.size+4;omega) (zu l);have i3:=j3.setOther (a:=⟨w.heap.size+4,0,none⟩) (by show w.heap.size+3≠w.heap.size+4;omega) (zu l);have i4:=j4.sU (zu l);have i5:=j5.setOther (a:=⟨w.heap.size+4,0,none⟩) (by show w.heap.size+5≠w.heap.size+4;omega) (zu l);have hc1:D.take.1.calls.getD s none=some c:=by rw[mX];exact hc
    exact⟨j0.cell 0 rfl,j4.cell 0 rfl,j4.frozen 0,i0.cell 0 rfl,i1.cell 0 rfl,i2.cell 0 rfl,i4.cell 0 rfl,r7.call hc1 1 rfl,r7.call hc1 3 rfl,r7,g7,i0.box,i4.box,i1.box,i3.box,i2.box,i5.box,hh.grow g7⟩
   have hc1:D.take.1.calls.getD s none=some c:=by rw[mX];exact hc
   cases ht:D.take.2 with
   |none=>
    have e:D.slot s x F head=(D.take.1,.abort 14 5):=by rw[h0];exact ug ht
    rw[e];rw[ht,show yh none=.tuple #[zu 0,I 15] from rfl] at HT;have HF:=U FACT;clear hR hh hv0 hm hn hfree htag r6 g6 f0 f1 f2 f3 f4 f5 NC h0 e ht FACT ou zX mX hc1 hc;generalize D.take.1=aH at*;go_enter Tryz.func151,Tryz.ntmps151;go_wp2_with (first|(go_at_call 167;refine HT.out.mono ?_;rintro e H ⟨rfl,A1,⟨⟨L1,v1,m1,rfl⟩,hm1⟩,q1,q2⟩;obtain⟨c0,c4,z4,n0,n1,n2,n4,n5,n6,r7,g7,Z⟩:=HF.out L1 v1 m1 H q1 q2 0;rw[show ((0:Nat):Int)=0 from rfl] at n0 n1 n2 n4 n5 n6 r7 g7;have HA:=U (iP r7 s 14 5);have HG:=U (zA g7 hm1);clear q1 q2 r7 g7 Z hm1)|(go_at_call 97;refine HA.out.mono ?_;rintro e w2 ⟨A2,v,rfl,p1,p2,p3,p4⟩));go_ret;have hst:bL A {A with L:=L1,eO:=v1,mp:=m1} s:=⟨rfl,rfl,rfl,rfl,rfl,rfl,rfl,rfl,rfl,HG.out.2,rfl,fun _ _=>rfl,fun _ _=>rfl⟩
    exact⟨A2,v,rfl,p1,HG.out.1.trans p2,hst.trans p3,p4⟩
   |some l=>
    have e:D.slot s x F head=(D.take.1.lay s l,.dX x l head):=by rw[h0];exact uh ht
    rw[e];rw[ht,show yh (some l)=.tuple #[zu l,I 0] from rfl] at HT;have hvl:VL D.take.1 l:=(Jl hfree (by have:=hR.sl;omega) htag ht).1;have FIN:∀ L1 v1 m1 ws,aD {A with L:=L1,eO:=v1,mp:=m1} D.take.1 ws->Grow A.L w L1 ws->zk 87 #[R A.Y 0,zu l] ws.drew (fun e G=>e=.returned (.pointer (some ⟨A.bv,2*aj l,none⟩))∧G=ws.drew)∧ws.drew.there A.bv (2*aj l) 2∧(∀ G,World.setCells ws.drew A.bv (2*aj l) [I c.op.E,I c.op.value]=G->aD {A with L:=L1,eO:=v1,mp:=m1} (D.take.1.lay s l) G∧Grow A.L w L1 G∧Grow L1 ws L1 G):=by
     intro L1 v1 m1 ws r7 g7;obtain⟨t1,t2,t3⟩:=DD r7.drew s c hc1 l hvl;refine⟨flip (kZ r7.drew l hvl.lo hvl.hi hvl.u),t1,?_⟩;rintro G rfl;have gd:Grow L1 ws L1 ws.drew:=Grow.drew _ _;exact⟨t2,(g7.trans gd).trans t3,gd.trans t3⟩
    have HF:=U FACT;have HN:=U FIN;have hx':(kp A D.take.1 s).xo x=.pointer px:=by
     rw[show kp A D.take.1 s=kp A D s by unfold kp St.c;rw[mX]];exact hx
    have HX:=U hx';clear hR hh hv0 hm hn hfree htag r6 g6 f0 f1 f2 f3 f4 f5 NC h0 e ht FACT ou zX mX hc1 hc hvl FIN hx hx';generalize D.take.1=aH at*;go_enter Tryz.func151,Tryz.ntmps151;go_wp2_with (go_at_call 167;refine HT.out.mono ?_;rintro e H ⟨rfl,A1,⟨⟨L1,v1,m1,rfl⟩,hm1⟩,q1,q2⟩;obtain⟨c0,c4,z4,n0,n1,n2,n4,n5,n6,r7,g7,Z⟩:=HF.out L1 v1 m1 H q1 q2 l;have HG:=U (zA r7 (zA g7 (zA hm1 Z)));clear q1 q2 r7 g7 Z hm1);generalize hws:World.setCell _ _ _=ws at*;obtain⟨d0,d1,d2⟩:=HN.out L1 v1 m1 ws HG.out.1 HG.out.2.1;have HD:=U d0;clear HT;have HT:=U d1;have QI:=U d2;clear d0 d1 d2 HF HN hws;refine wp_region_still_tail 15 (by kernel_rfl) (by kernel_rfl) ?_;simp only[jk,jl,jm,jo]
    repeat still_step
    still_call HD.out
    repeat still_step
    refine wpStill_nil ?_;change wpList _ _ _ _ _ ws.drew;generalize ws.drew=wd at*;go_wp2_with (refine wpList_store_mid rfl 190 (.tmp 44) (.tmp 43) rfl A.bv (2*aj l) #[I c.op.E,I c.op.value] rfl rfl HT.out (by kernel_rfl) (by simp[Value.oneCell']) ?_;generalize hws:World.setCells _ _ _ _=ws;obtain⟨k1,k2⟩:=QI.out ws hws;have HK:=U (zA k1 k2);clear k1 k2 hws);go_ret;obtain⟨b0,b4,b1,b3,b2,b5,hrow⟩:=HG.out.2.2.2;obtain⟨r8,g8,g9⟩:=HK.out;exact⟨_,_,rfl,r8,g8,⟨rfl,rfl,rfl,rfl,rfl,rfl,rfl,rfl,rfl,HG.out.2.2.1,rfl,fun _ _=>rfl,fun _ _=>rfl⟩,_,_,_,_,_,_,rfl,b0.grow g9,b4.grow g9,b1.grow g9,by have:=b3.grow g9;rw[<-HX.out] at this;exact this,b2.grow g9,_,b5.grow g9,hrow.grow g9⟩
 . have hvl:=hv0.resolve_left h0
   rw[Ez h0];have d1:((F:Int)==0)=false:=by simpa using h0
   have d2:((F:Int)=0)=False:=by simpa using h0
   have q1:=r6.call hc 1 (v:=I c.op.E) rfl;have q3:=r6.call hc 3 (v:=I c.op.value) rfl;have HD:=U (flip (kZ r6.drew F hvl.lo hvl.hi hvl.u));obtain⟨t1,t2,t3⟩:=DD r6.drew s c hc F hvl;have HT:=U t1;have QI:Hid (∀ ws,World.setCells ((((((w.alloc (.cells #[R A.Y 0] 32)).alloc (.cells #[R (A.bt s) 0] 100)).alloc (.cells #[R (A.bc s) 0] 105)).alloc (.cells #[.pointer px] 223)).alloc (.cells #[zu F] 25)).alloc (.cells #[.slice ha hn1 hcap] 260)).drew A.bv (2*aj F) [I c.op.E,I c.op.value]=ws->aD A (D.lay s F) ws∧Grow A.L ((((((w.alloc (.cells #[R A.Y 0] 32)).alloc (.cells #[R (A.bt s) 0] 100)).alloc (.cells #[R (A.bc s) 0] 105)).alloc (.cells #[.pointer px] 223)).alloc (.cells #[zu F] 25)).alloc (.cells #[.slice ha hn1 hcap] 260)).drew A.L ws):=U (by rintro ws rfl;exact⟨t2,t3⟩);have HB:=U (zA (g6.trans (Grow.drew _ _)) (zA (zA f0 (zA f4 (zA f1 (zA f3 (zA f2 f5))))) (zA NC (Grow.drew A.L ((((((w.alloc (.cells #[R A.Y 0] 32)).alloc (.cells #[R (A.bt s) 0] 100)).alloc (.cells #[R (A.bc s) 0] 105)).alloc (.cells #[.pointer px] 223)).alloc (.cells #[zu F] 25)).alloc (.cells #[.slice ha hn1 hcap] 260))))));clear hR hh hv0 hm hn hfree htag r6 g6 f0 f1 f2 f3 f4 f5 NC hvl h0 t1 t2 t3;go_enter Tryz.func151,Tryz.ntmps151;go_wp2_with fail;generalize ((((((w.alloc (.cells #[R A.Y 0] 32)).alloc (.cells #[R (A.bt s) 0] 100)).alloc (.cells #[R (A.bc s) 0] 105)).alloc (.cells #[.pointer px] 223)).alloc (.cells #[zu F] 25)).alloc (.cells #[.slice ha hn1 hcap] 260))=w6 at*;refine wp_region_still_tail 15 (by kernel_rfl) (by kernel_rfl) ?_;simp only[jk,jl,jm,jo]
   repeat still_step
   still_call HD.out
   repeat still_step
   refine wpStill_nil ?_;change wpList _ _ _ _ _ w6.drew;generalize w6.drew=wd at*;go_wp2_with (refine wpList_store_mid rfl 190 (.tmp 44) (.tmp 43) rfl A.bv (2*aj F) #[I c.op.E,I c.op.value] rfl rfl HT.out (by kernel_rfl) (by simp[Value.oneCell']) ?_;generalize hws:World.setCells _ _ _ _=ws;obtain⟨k1,k2⟩:=QI.out ws hws;have HK:=U (zA k1 k2);clear k1 k2 hws);go_ret;obtain⟨g7,⟨f0,f4,f1,f3,f2,f5⟩,NC,gd⟩:=HB.out;obtain⟨r8,g8⟩:=HK.out;have g9:=gd.trans g8;exact⟨A,_,rfl,r8,g7.trans g8,bL.refl _ _,_,_,_,_,_,_,rfl,(f0.grow g9).box,(f4.grow g9).box,(f1.grow g9).box,hx ▸ (f3.grow g9).box,(f2.grow g9).box,_,(f5.grow g9).box,NC.grow g9⟩
theorem zY (hR:aD A D w) (s:Nat) (c:dF) (hc:D.calls.getD s none=some c) (F head at_:Nat) (hv0:F=0∨VL D F)
 (hm:A.mp=0) (hn:D.free.length<100000) (hfree:∀ i∈D.list.free,i<D.aC) (htag:∀ i,i<D.aC->(D.tags.getD i (0,false)).1<=65535):
 zk 154 #[R A.Y 0,R (A.bt s) 0,R (A.bc s) 0,zu F,zu head,zu at_] w (aZ A w s (D.gT s F head at_)):=by
 obtain⟨r6,g6,f0,f1,f2,f3,f4,f5⟩:=Dv hR #[R A.Y 0] 32 #[R (A.bt s) 0] 100 #[R (A.bc s) 0] 105 #[zu F] 25 #[zu head] 25 #[zu at_] 25;have k0:=f0.cell 0 rfl;have k1:=f1.cell 0 rfl;have k2:=f2.cell 0 rfl;have k3:=f3.cell 0 rfl;have k4:=f4.cell 0 rfl;have k5:=f5.cell 0 rfl;unfold St.gT
 by_cases h0:at_=0
 . rw[aV h0]
   have d1:((at_:Int)==0)=true:=by simpa using h0
   have d2:((at_:Int)=0)=True:=by simpa using h0
   obtain⟨r7,g7,f6⟩:=cB r6 #[zu head] 25;have hrow:dQ A.L (((((((w.alloc (.cells #[R A.Y 0] 32)).alloc (.cells #[R (A.bt s) 0] 100)).alloc (.cells #[R (A.bc s) 0] 105)).alloc (.cells #[zu F] 25)).alloc (.cells #[zu head] 25)).alloc (.cells #[zu at_] 25)).alloc (.cells #[zu head] 25)) 1 (.slice (some ⟨w.heap.size+6,0,none⟩) 1 1) (if false then [] else [u64 head]):=by
    rw[show ((((((w.alloc (.cells #[R A.Y 0] 32)).alloc (.cells #[R (A.bt s) 0] 100)).alloc (.cells #[R (A.bc s) 0] 105)).alloc (.cells #[zu F] 25)).alloc (.cells #[zu head] 25)).alloc (.cells #[zu at_] 25)).heap.size=w.heap.size+6 by simp] at f6;refine⟨_,_,_,rfl,rfl,by omega,by unfold maxLen;omega,.inr ⟨_,0,rfl,f6.1,?_,?_⟩⟩
    . simp
    . intro j hj
      have hj0:j=0:=by omega
      subst hj0;exact f6.cell 0 rfl
   have HS:=U (pQ r7 s c hc false F head _ hrow hv0 hm hn hfree htag);have HG:=U (g6.trans g7);clear hR hc hv0 hm hn hfree htag h0 hrow r6 g6 r7 g7 f0 f1 f2 f3 f4 f5 f6;go_enter Tryz.func154,Tryz.ntmps154;go_wp2_with (go_at_call 151;refine HS.out.mono ?_;rintro e w2 ⟨A2,v,rfl,p1,p2,p3,p4⟩);go_ret;exact⟨A2,v,rfl,p1,HG.out.trans p2,p3,p4⟩
 . rw[aX h0]
   have d1:((at_:Int)==0)=false:=by simpa using h0
   have d2:((at_:Int)=0)=False:=by simpa using h0
   obtain⟨r7,g7,f6⟩:=cB r6 #[.func (.func 172) #[] #[R w.heap.size 0,.pointer (some ⟨w.heap.size+1,0,none⟩),.pointer (some ⟨w.heap.size+2,0,none⟩),.pointer (some ⟨w.heap.size+3,0,none⟩),.pointer (some ⟨w.heap.size+4,0,none⟩),.pointer (some ⟨w.heap.size+5,0,none⟩)]] 138;have HG:=U (zA r7 (zA (g6.trans g7) (zA (f0.grow g7).box (zA (f1.grow g7).box (zA (f2.grow g7).box (zA (f3.grow g7).box (zA (f4.grow g7).box (zA (f5.grow g7).box f6.box))))))));clear hR hc hv0 hm hn hfree htag h0 r6 g6 r7 g7 f0 f1 f2 f3 f4 f5 f6;go_enter Tryz.func154,Tryz.ntmps154;go_wp2;go_ret;obtain⟨r7,g7,f0,f1,f2,f3,f4,f5,f6⟩:=HG.out;have hsz:((((((w.alloc (.cells #[R A.Y 0] 32)).alloc (.cells #[R (A.bt s) 0] 100)).alloc (.cells #[R (A.bc s) 0] 105)).alloc (.cells #[zu F] 25)).alloc (.cells #[zu head] 25)).alloc (.cells #[zu at_] 25)).heap.size=w.heap.size+6:=by simp
   rw[hsz] at f6;exact⟨A,_,rfl,r7,g7,bL.refl _ _,_,_,_,_,_,_,rfl,f0,f5,f1,⟨_,f6,_,_,_,_,_,_,rfl,f0,f1,f2,f3,f4,f5⟩,f2,f3⟩
structure iL (D:St):Prop where
 n:D.free.length<100000
 free:∀ i∈D.free,i<D.aC
 tag:∀ i,i<D.aC->(D.tags.getD i (0,false)).1<=65535
 iA:D.iA<1000000
theorem iL.list {D:St} (h:iL D):∀ i∈D.list.free,i<D.aC:=by
 unfold St.list
 split
 . exact h.free
 . intro i hi
   rcases List.mem_append.1 hi with h1|h1
   . exact h.free i h1
   . simpa using h1
theorem oz (h:aD A D w) (i:Nat) (z:Int) (hz:z=(i:Int)) (hi:i<D.words.length) (hc:D.count<4000000000000000000):
 zk 42 #[R A.ba 0,I z] w (FD A w D.tick (zu (D.word i:Int))):=by subst hz;exact gM h i hi hc
theorem Jm (hR:aD A D w) (s:Nat) (c:dF) (hc:D.calls.getD s none=some c) (F:Nat) (hv0:F=0∨VL D F) (V:c.op.E<64) (hm:A.mp=0) (hp:iL D) (aQ:D.count<4000000000000000000)
 (b0 b1 b2 b3:Nat) (B0:aK A.L w b0 (R A.Y 0)) (B1:aK A.L w b1 (R (A.bc s) 0)) (B2:aK A.L w b2 (R (A.bt s) 0)) (B3:aK A.L w b3 (zu F)):
 zk 153 #[R b0 0,R b1 0,R b2 0,R b3 0] w (jO A w s (D.run s (.fresh F))):=by
 have c0:=B0.cell;have c1:=B1.cell;have e2:=hR.z2;have k1:w.cell? (J (A.bc s) 1)=zt c.op.E:=hR.call hc 1 rfl;have n1:IntKind.i64.wrap (9+(c.op.E:Int))=9+(c.op.E:Int):=by rw[jH];omega
 have HL:=U (oz hR.drew (9+c.op.E) (9+(c.op.E:Int)) (by omega) (by rw[hR.nw];omega) aQ);have aN:D.run s (.fresh F)=(((D.tick.gT s F (D.word (9+c.op.E)) (D.word (9+c.op.E)))).1,some ((D.tick.gT s F (D.word (9+c.op.E)) (D.word (9+c.op.E)))).2):=by
  simp only[St.run,aU hc]
 rw[aN];have HB:Hid (∀ H,aD A D.tick H->Grow A.L w.drew A.L H->zk 154 #[R A.Y 0,R (A.bt s) 0,R (A.bc s) 0,zu F,zu (D.word (9+c.op.E):Int),zu (D.word (9+c.op.E):Int)] H (aZ A H s (D.tick.gT s F (D.word (9+c.op.E)) (D.word (9+c.op.E))))∧zS H b0 0 A.Y 0∧zS H b1 0 (A.bc s) 0∧zS H b2 0 (A.bt s) 0∧zV H b3 0 F∧Grow A.L w A.L H):=by
  intro H q1 q2;have g:Grow A.L w A.L H:=(Grow.drew _ _).trans q2;exact⟨zY q1 s c hc F _ _ (hv0.imp id fun h=>⟨h.lo,h.hi,h.u⟩) hm hp.n (iL.list (D:=D.tick) ⟨hp.n,hp.free,hp.tag,hp.iA⟩) hp.tag,(B0.grow g).cell,(B1.grow g).cell,(B2.grow g).cell,(B3.grow g).cell,g⟩
 clear hR hc hv0 hm hp aQ B0 B1 B2 B3 aN V;generalize D.tick.gT s F (D.word (9+c.op.E)) (D.word (9+c.op.E))=res at*;generalize D.word (9+c.op.E)=hd at*;generalize c.op.E=E at*;go_enter Tryz.func153,Tryz.ntmps153;go_wp2_with fail;refine wp_region_still_tail 10 (by kernel_rfl) (by kernel_rfl) ?_;simp only[jk,jl,jm,jo]
 repeat still_step
 refine wpStill_nil ?_;change wpList _ _ _ _ _ w.drew;generalize w.drew=wd at*;go_wp2_with (first|(go_at_call 42;refine HL.out.mono ?_;rintro e H ⟨rfl,q1,q2⟩;obtain⟨hf,d0,d1,d2,d3,g1⟩:=HB.out H q1 q2;have HF:=U (zA hf g1);clear q1 q2 hf g1)|(go_at_call 154;refine HF.out.1.mono ?_;rintro e w2 ⟨A2,v,rfl,p1,p2,p3,p4⟩));go_ret;exact⟨A2,v,rfl,p1,HF.out.2.trans p2,p3,p4⟩
theorem LM (hR:aD A D w) (s:Nat) (c:dF) (hc:D.calls.getD s none=some c) (F head at_:Nat) (hv0:F=0∨VL D F) (hv:VL D at_) (hm:A.mp=0) (hp:iL D) (aQ:D.count<4000000000000000000)
 (b0 b1 b2 b3 b4 b5:Nat) (B0:aK A.L w b0 (R A.Y 0)) (B1:aK A.L w b1 (R (A.bt s) 0)) (B2:aK A.L w b2 (R (A.bc s) 0)) (B3:aK A.L w b3 (zu F)) (B4:aK A.L w b4 (zu head)) (B5:aK A.L w b5 (zu at_)):
 zk 172 #[R b0 0,R b1 0,R b2 0,R b3 0,R b4 0,R b5 0] w (jO A w s (D.run s (.next F head at_))):=by
 have c0:=B0.cell;have c1:=B1.cell;have c2:=B2.cell;have c3:=B3.cell;have c4:=B4.cell;have c5:=B5.cell;have hsl:=hR.sl;have e2:=hR.z2;have HS:=U (gF at_ 2 2 rfl hv.lo (by have:=hv.hi;omega) hv.u (by omega));have HL:=U (gM hR.drew (af at_ 2) (fI hR hv.lo hv.hi (by omega)) aQ);have HG:=zG A.L w;have HK:Hid (∀ G,Kp A w G->zS G b0 0 A.Y 0∧zS G b1 0 (A.bt s) 0∧zS G b2 0 (A.bc s) 0∧zV G b3 0 F∧zV G b4 0 head∧zV G b5 0 at_∧zS G A.Y 2 A.ba 0):=by
  obtain⟨_,x0⟩:=B0;obtain⟨_,x1⟩:=B1;obtain⟨_,x2⟩:=B2;obtain⟨_,x3⟩:=B3;obtain⟨_,x4⟩:=B4;obtain⟨_,x5⟩:=B5;exact fun G k=>⟨k.fix _ _ _ x0.1 c0,k.fix _ _ _ x1.1 c1,k.fix _ _ _ x2.1 c2,k.fix _ _ _ x3.1 c3,k.fix _ _ _ x4.1 c4,k.fix _ _ _ x5.1 c5,k.ea⟩
 have aN:D.run s (.next F head at_)=((D.tick.gT s F head (D.word (af at_ 2))).1,some (D.tick.gT s F head (D.word (af at_ 2))).2):=rfl;rw[aN];have HB:Hid (∀ H,aD A D.tick H->zk 154 #[R A.Y 0,R (A.bt s) 0,R (A.bc s) 0,zu F,zu head,zu (D.word (af at_ 2):Int)] H (aZ A H s (D.tick.gT s F head (D.word (af at_ 2))))):=
  fun H q1=>zY q1 s c hc F _ _ (hv0.imp id fun h=>⟨h.lo,h.hi,h.u⟩) hm hp.n (iL.list (D:=D.tick) ⟨hp.n,hp.free,hp.tag,hp.iA⟩) hp.tag
 clear hR hc hv0 hv hm hp aQ B0 B1 B2 B3 B4 B5 aN hsl;go_enter Tryz.func172,Tryz.ntmps172;go_wp2_with fail
 go_region_held3 (fun G=>zS G b0 0 A.Y 0∧zS G b1 0 (A.bt s) 0∧zS G b2 0 (A.bc s) 0∧zV G b3 0 F∧zV G b4 0 head∧zV G b5 0 at_∧zS G A.Y 2 A.ba 0)
  (first|exact⟨c0,c1,c2,c3,c4,c5,e2⟩|assumption|exact HK.out _ (Kp.of (by assumption) (by assumption) (by assumption)))
  (first|(go_at_call 85;refine (HS.out _).mono ?_;rintro e G ⟨rfl,rfl⟩)|(go_at_call 42;refine HL.out.mono ?_;rintro e H ⟨rfl,q1,q2⟩;have q4:=HG.out.trans q2;have q3:=bL.refl A s;clear q2)|(go_at_call 154;refine (HB.out _ (by assumption)).mono ?_;rintro e w2 ⟨A',v,rfl,p1,p2,p3,p4⟩;have p5:=(‹Grow A.L w A.L _›).trans p2))
 go_wp2_with fail;go_ret;exact⟨A',_,rfl,p1,p5,p3,p4⟩
theorem zZ {D:St} {F:Nat} (hv:VL D F):D.jw F=((D.tags.getD (aj F) (0,false)).2&&D.iU (aj F)==F):=by
 unfold St.jw;have h1:decide (1<=F % 131072)=true:=by simpa using hv.lo
 have h2:decide (F % 131072<=D.aC)=true:=by simpa using hv.hi
 rw[h1,h2,Bool.true_and,Bool.true_and]
theorem Gh (hR:aD A D w) (F:Nat) (hv:VL D F) (htag:∀ i,i<D.aC->(D.tags.getD i (0,false)).1<=65535):
 zk 134 #[R A.bp 0,zu F] w fun e G=>e=.returned (.bool (D.jw F))∧w=G:=by
 have hi:=iw hv;have hu:=Word.mW (F:Int) (by omega) (by have:=hv.u;omega) w;rw[<-nY hv.lo] at hu;have p0:w.cell? (J A.bp 0)=some (.slice (some (J A.bs 0)) D.aC D.aC):=hR.bK 0 rfl;have t1:=(hR.tag hi).2;rw[Nat.mul_comm] at t1;have hl:=zR hR (aj F) hi (htag _ hi);have b0:(0:Int)<=(aj F:Int):=by omega
 have b1:(aj F:Int)<(D.aC:Int):=by omega
 rw[zZ hv];have HU:=U hu;have HL:=U hl;clear hu hl hv htag hR hi;generalize aj F=i at*
 cases htk:(D.tags.getD i (0,false)).2 with
 |false=>
  rw[htk] at t1;clear htk;go_enter Tryz.func134,Tryz.ntmps134;go_wp2_with (go_at_call 107;refine HU.out.mono ?_;rintro e G ⟨rfl,rfl⟩);go_ret;exact⟨rfl,rfl⟩
 |true=>
  rw[htk] at t1;clear htk;rw[Bool.true_and];generalize D.iU i=la at*
  by_cases he:la=F
  . have d1:((la:Int)==(F:Int))=true:=by simp;omega
    have d2:(la==F)=true:=by simp;omega
    rw[d2];have d3:((la:Int)=(F:Int))=True:=by simp;omega
    clear d2 he;go_enter Tryz.func134,Tryz.ntmps134;go_wp2_with (first|(go_at_call 107;refine HU.out.mono ?_;rintro e G ⟨rfl,rfl⟩)|(go_at_call 158;refine HL.out.mono ?_;rintro e G ⟨rfl,rfl⟩));go_ret;exact⟨rfl,rfl⟩
  . have d1:((la:Int)==(F:Int))=false:=by simp;omega
    have d2:(la==F)=false:=by simp;omega
    rw[d2];have d3:((la:Int)=(F:Int))=False:=by simp;omega
    clear d2 he;go_enter Tryz.func134,Tryz.ntmps134;go_wp2_with (first|(go_at_call 107;refine HU.out.mono ?_;rintro e G ⟨rfl,rfl⟩)|(go_at_call 158;refine HL.out.mono ?_;rintro e G ⟨rfl,rfl⟩));go_ret;exact⟨rfl,rfl⟩
end Go.Proofs.YthicolbbmjfkfaaGreat.Em
