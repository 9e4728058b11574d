import Derived.Test.YthicolbbmjfkfaaGreatQf4
import Derived.Laws.ResultCell
import Derived.Laws.Rows
import Derived.Deep.Cut
set_option linter.unusedVariables false
set_option linter.unusedSimpArgs false
set_option maxRecDepth 100000
set_option maxHeartbeats 1600000
namespace Go.Proofs.YthicolbbmjfkfaaGreat.Em
open Go.ChangeShapes Go.WideShapes Go.ChangeAt Go.RowKit En
def az.tmp (A:az) (b:Nat):az:={A with L:=jy A.L b .tmp}
theorem NH (A:az) (D:St) (b:Nat) (q:bW):bB (A.tmp b) D q=bB A D q:=by cases q<;>rfl
theorem aF.o5 {A:az} {D:St} {w:World} (h:aF A D w) (o:Obj):aF (A.tmp w.heap.size) D (w.alloc o)∧Grow A.L w (A.tmp w.heap.size).L (w.alloc o)∧(A.tmp w.heap.size).L w.heap.size=some .tmp∧(w.alloc o).heap[w.heap.size]? =some o:=by
 have g:Grow A.L w (A.tmp w.heap.size).L (w.alloc o):=(Grow.alloc A.L w o).jy (zr _) _;refine⟨⟨⟨fun r=>?_,fun b Z=>?_⟩,h.ev.grow g,h.sl,h.nw,h.nt,h.nv,h.n8,h.nc⟩,g,kG _ _ _,heap_alloc_new w o⟩
 . rw[NH]
   exact (h.mem.all r).frame (fun b Z _=>Below.heap_alloc w o b Z) (fun b Z=>eO (by omega))
 . have:w.heap.size+1<=b:=by simpa using Z
   show jy A.L w.heap.size .tmp b=none;rw[eO (by omega)];exact h.mem.fresh b (by omega)
theorem fK {L L':eH} {w E:World} {b:Nat} {o:Obj} (h:L b=some .tmp∧w.heap[b]? =some o) (g:Grow L w L' E):L' b=some .tmp∧E.heap[b]? =some o:=⟨(g.lab b (gH h.2)).trans h.1,(g.keep b (gH h.2) h.1).trans h.2⟩
structure But (b:Nat) (w E:World):Prop where
 os:E.os=w.os
 tape:E.tape=w.tape
 output:E.output=w.output
 size:E.heap.size=w.heap.size
 block:∀ k,k≠b->E.heap[k]? =w.heap[k]?
theorem But.setCell (w:World) (a:Addr) (v:Value):But a.block w (w.setCell a v):=⟨rfl,rfl,rfl,by simp[World.setCell],fun k Y=>Below.heap_setCell _ _ _ _ Y⟩
theorem But.trans {b:Nat} {w H w2:World} (h:But b w H) (k:But b H w2):But b w w2:=⟨k.os.trans h.os,k.tape.trans h.tape,k.output.trans h.output,k.size.trans h.size,fun j hj=>(k.block j hj).trans (h.block j hj)⟩
theorem But.setCells (b:Nat):∀ (vs:List Value) (o:Nat) (w:World),But b w (w.setCells b o vs)
 |[],_,w=>⟨rfl,rfl,rfl,rfl,fun _ _=>rfl⟩
 |v::vs,o,w=>(But.setCell w (J b o) v).trans (But.setCells b vs (o+1) (w.setCell (J b o) v))
section
variable {L:eH} {w E:World} {b:Nat} (hl:L b=some .tmp) (h:But b w E)
include hl h
theorem iJ.but {size:Nat} {v:Value} {xs:List Value} (f:iJ L w size v xs):iJ L E size v xs:=by
 obtain⟨ad,n,cap,rfl,e2,e3,e4,e5⟩:=f;refine⟨ad,n,cap,rfl,e2,e3,e4,?_⟩
 rcases e5 with h0|⟨g,off,rfl,e7,e8,e9⟩
 . exact .inl h0
 . refine .inr ⟨g,off,rfl,e7,by rw[h.size];exact e8,fun j hj=>?_⟩
   rw[World.cell?_of_block (w:=w) (a:=(J g (off+j))) (h.block g (by rintro rfl;rw[hl] at e7;cases e7))];exact e9 j hj
theorem lC.but {v:Value} {xs:List Value} (f:lC L w v xs):lC L E v xs:=by
 refine⟨f.1.but hl h,fun g off n cap hv=>?_⟩
 rcases f.2 g off n cap hv with h0|⟨cs,hc⟩
 . exact .inl h0
 . by_cases hn:n=0
   . exact .inl hn
   . obtain⟨ad,n',cap',e1,e2,e3,e4,e5⟩:=f.1
     obtain⟨rfl,rfl,rfl⟩:ad=za g off∧n'=n∧cap'=cap:=by rw[hv] at e1;simp at e1;exact⟨e1.1.symm,e1.2.1.symm,e1.2.2.symm⟩
     obtain⟨g',off',e6,e7,_⟩:=e5.resolve_left hn;obtain⟨rfl,rfl⟩:g=g'∧off=off':=by simpa using e6
     exact .inr ⟨cs,(h.block g (by rintro rfl;rw[hl] at e7;cases e7)).trans hc⟩
theorem qU.but:∀ {l:List Ev} {xs:List Value},qU L w l xs->qU L E l xs
 |[],_,f=>f
 |_::_,_,⟨vp,ys,h1,h2,h3⟩=>⟨vp,ys,h1,h2.but hl h,qU.but h3⟩
end
theorem aF.but {A:az} {D:St} {w E:World} {b:Nat} (hR:aF A D w) (hl:A.L b=some .tmp) (h:But b w E):aF A D E:=by
 refine⟨⟨fun r=>?_,fun k Y=>hR.mem.fresh k (by rw[<-h.size];exact Y)⟩,hR.ev.but hl h,hR.sl,hR.nw,hR.nt,hR.nv,hR.n8,hR.nc⟩
 by_cases hr:r=.tmp
 . subst hr;trivial
 . refine (hR.mem.all r).frame (fun k Y hk'=>h.block k ?_) (fun _ _=>rfl)
   rintro rfl;rw[hl] at hk';exact hr (zj hk').symm
theorem Grow.but {L L':eH} {w H w2:World} {b:Nat} (g:Grow L w L' H) (Z:w.heap.size<=b) (h:But b H w2):Grow L w L' w2:=
 ⟨h.os.trans g.os,h.tape.trans g.tape,h.output.trans g.output,by rw[h.size];exact g.size,fun k Y hl=>(h.block k (by omega)).trans (g.block k Y hl),g.lab,fun k Y hl=>(h.block k (by omega)).trans (g.keep k Y hl)⟩
structure kF (L:eH) (w:World) (L':eH) (E:World):Prop where
 size:w.heap.size<=E.heap.size
 block:∀ b,b<w.heap.size->L b=none->E.heap[b]? =w.heap[b]?
 lab:∀ b,b<w.heap.size->L b=none->L' b=none
section
variable {p:KP} {L L':eH} {w E:World}
theorem Fix.soft {b:Nat} {o:Obj} (h:Fix L w b o) (g:kF L w L' E):Fix L' E b o:=⟨g.lab b (gH h.2) h.1,(g.block b (gH h.2) h.1).trans h.2⟩
theorem aP.soft {b:Nat} {v:Value} (h:aP L w b v) (g:kF L w L' E):aP L' E b v:=let ⟨T,h⟩:=h;⟨T,h.soft g⟩
theorem iJ.soft {size:Nat} {v:Value} {xs:List Value} (h:iJ L w size v xs) (g:kF L w L' E):iJ L' E size v xs:=by
 obtain⟨a,n,cap,h1,h2,h3,h4,h5⟩:=h;refine⟨a,n,cap,h1,h2,h3,h4,?_⟩
 rcases h5 with h5|⟨b,off,e1,e2,e3,e4⟩
 . exact .inl h5
 . refine .inr ⟨b,off,e1,g.lab b e3 e2,yI e3 g.size,fun j hj=>?_⟩
   rw[World.cell?_of_block (w:=w) (a:=(J b (off+j))) (g.block b e3 e2)];exact e4 j hj
theorem jA.soft {e:Nat} {L L':eH} {w E:World} {v:Value} (g:kF L w L' E):∀ {k:Option S},jA e L w v k->jA e L' E v k
 |none,h=>h
 |some .now,h=>h
 |some (.live s),h=>let ⟨b0,b1,e,k0,k1⟩:=h;⟨b0,b1,e,k0.soft g,k1.soft g⟩
 |some (.head F),h=>let ⟨b0,b1,e,k0,k1⟩:=h;⟨b0,b1,e,k0.soft g,k1.soft g⟩
 |some (.visit F ak G),h=>let ⟨b0,b1,b2,b3,e,k0,k1,k2,k3⟩:=h;⟨b0,b1,b2,b3,e,k0.soft g,k1.soft g,k2.soft g,k3.soft g⟩
 |some (.maker F ak G id),h=>let ⟨b0,b1,b2,b3,b4,e,k0,k1,k2,k3,k4⟩:=h;⟨b0,b1,b2,b3,b4,e,k0.soft g,k1.soft g,k2.soft g,k3.soft g,k4.soft g⟩
 |some (.dC F ak G b),h=>let ⟨b0,b1,b2,b3,b4,e,k0,k1,k2,k3,k4⟩:=h;⟨b0,b1,b2,b3,b4,e,k0.soft g,k1.soft g,k2.soft g,k3.soft g,k4.soft g⟩
 |some (.on F G),h=>let ⟨b0,b1,b2,e,k0,k1,k2⟩:=h;⟨b0,b1,b2,e,k0.soft g,k1.soft g,k2.soft g⟩
 |some (.unlink F ak G),h=>let ⟨b0,b1,b2,b3,e,k0,k1,k2,k3⟩:=h;⟨b0,b1,b2,b3,e,k0.soft g,k1.soft g,k2.soft g,k3.soft g⟩
 |some (.cut F ak G nx),h=>let ⟨b0,b1,b2,b3,b4,e,k0,k1,k2,k3,k4⟩:=h;⟨b0,b1,b2,b3,b4,e,k0.soft g,k1.soft g,k2.soft g,k3.soft g,k4.soft g⟩
theorem uM.soft {A A':az} {D:St} {w E:World} (h:uM A D w) (e:A'.Gz=A.Gz) (g:kF A.L w A'.L E):uM A' D E:=
 ⟨by rw[Ar e,JY e];exact h.sw.soft g,h.cu.keep e⟩
theorem mr.soft {b:Nat} {r:mo} (h:mr p L w b r) (g:kF L w L' E):mr p L' E b r:=let ⟨vp,T,h1,h2⟩:=h;⟨vp,T,h1.soft g,h2⟩
theorem l7.soft {b n:Nat} (h:l7 L w b n) (g:kF L w L' E):l7 L' E b n:=let ⟨T,h1⟩:=h;⟨T,h1.soft g⟩
theorem nI.soft {b n:Nat} (h:nI L w b n) (g:kF L w L' E):nI L' E b n:=let ⟨T,k,q,h1⟩:=h;⟨T,k,q,h1.soft g⟩
theorem jX.soft {b n:Nat} {x:Bool} (h:jX L w b x n) (g:kF L w L' E):jX L' E b x n:=let ⟨v,h1,h2⟩:=h;⟨v,h1.soft g,h2.soft g⟩
theorem nJ.soft {b:Nat} {l:List yJ} (h:nJ L w b l) (g:kF L w L' E):nJ L' E b l:=let ⟨v,h1,h2⟩:=h;⟨v,h1.soft g,h2.soft g⟩
theorem nK.soft {b k:Nat} (h:nK p L w b k) (g:kF L w L' E):nK p L' E b k:=let ⟨v,h1,c0,c1,e,k0,k1⟩:=h;⟨v,h1.soft g,c0,c1,e,k0.soft g,k1.soft g⟩
theorem lT.soft {b l1 l2 l3:Nat} (h:lT p L w b l1 l2 l3) (g:kF L w L' E):lT p L' E b l1 l2 l3:=let ⟨v,h1,c0,c1,c2,c3,c4,c5,e,k0,k1,k2,k3,k4,k5⟩:=h;⟨v,h1.soft g,c0,c1,c2,c3,c4,c5,e,k0.soft g,k1.soft g,k2.soft g,k3.soft g,k4.soft g,k5.soft g⟩
theorem nL.soft {b l1 l2:Nat} (h:nL p L w b l1 l2) (g:kF L w L' E):nL p L' E b l1 l2:=let ⟨v,h1,c0,c1,c2,c3,c4,e,k0,k1,k2,k3,k4⟩:=h;⟨v,h1.soft g,c0,c1,c2,c3,c4,e,k0.soft g,k1.soft g,k2.soft g,k3.soft g,k4.soft g⟩
theorem kM.soft {v:Value} {F:Nat} {t:P6} (h:kM p L w v F t) (g:kF L w L' E):kM p L' E v F t:=
 match t,h with
 |.get,hh=>let ⟨b0,b1,b2,b3,e,k0,k1,k2,k3⟩:=hh;⟨b0,b1,b2,b3,e,k0.soft g,k1.soft g,k2.soft g,k3.soft g⟩
 |.scan k,hh=>let ⟨b0,b1,b2,b3,b4,e,k0,k1,k2,k3,k4⟩:=hh;⟨b0,b1,b2,b3,b4,e,k0.soft g,k1.soft g,k2.soft g,k3.soft g,k4.soft g⟩
 |.change,hh=>let ⟨b0,b1,b2,b3,e,k0,k1,k2,k3⟩:=hh;⟨b0,b1,b2,b3,e,k0.soft g,k1.soft g,k2.soft g,k3.soft g⟩
 |.judge i l,hh=>let ⟨b0,b1,b2,b3,b4,e,k0,k1,k2,k3,k4⟩:=hh;⟨b0,b1,b2,b3,b4,e,k0.soft g,k1.soft g,k2.soft g,k3.soft g,k4.soft g⟩
theorem dS.soft {b:Nat} {h:dR} (hh:dS p L w b h) (g:kF L w L' E):dS p L' E b h:=let ⟨v,T,h1,h2⟩:=hh;⟨v,T,h1.soft g,h2.soft g⟩
theorem ic.soft {b:Nat} {h:dR} (hh:ic p L w b h) (g:kF L w L' E):ic p L' E b h:=let ⟨v,h1,h2⟩:=hh;⟨v,h1.soft g,h2.soft g⟩
theorem nY.soft {v:Value} {k:K} (h:nY p L w v k) (g:kF L w L' E):nY p L' E v k:=
 match k,h with
 |.start _,⟨bh,e,h1⟩=>⟨bh,e,h1.soft g⟩
 |.fin r,hh=>let ⟨b0,b1,b2,e,k0,k1,k2⟩:=hh;⟨b0,b1,b2,e,k0.soft g,k1.soft g,k2.soft g⟩
 |.visit h G,hh=>let ⟨b0,b1,e,k0,k1⟩:=hh;⟨b0,b1,e,k0.soft g,k1.soft g⟩
 |.older h G,hh=>let ⟨b0,b1,e,k0,k1⟩:=hh;⟨b0,b1,e,k0.soft g,k1.soft g⟩
 |.maker h G id,hh=>let ⟨b0,b1,b2,e,k0,k1,k2⟩:=hh;⟨b0,b1,b2,e,k0.soft g,k1.soft g,k2.soft g⟩
 |.ended h G mb,hh=>let ⟨b0,b1,b2,e,k0,k1,k2⟩:=hh;⟨b0,b1,b2,e,k0.soft g,k1.soft g,k2.soft g⟩
 |.ik h G mb id,hh=>let ⟨b0,b1,b2,b3,e,k0,k1,k2,k3⟩:=hh;⟨b0,b1,b2,b3,e,k0.soft g,k1.soft g,k2.soft g,k3.soft g⟩
 |.seen h G mb,hh=>let ⟨b0,b1,b2,e,k0,k1,k2⟩:=hh;⟨b0,b1,b2,e,k0.soft g,k1.soft g,k2.soft g⟩
 |.again ay,hh=>let ⟨b0,b1,b2,b3,e,k0,k1,k2,k3⟩:=hh;⟨b0,b1,b2,b3,e,k0.soft g,k1.soft g,k2.soft g,k3.soft g⟩
 |.own G,hh=>let ⟨b0,b1,b2,b3,e,k0,k1,k2,k3⟩:=hh;⟨b0,b1,b2,b3,e,k0.soft g,k1.soft g,k2.soft g,k3.soft g⟩
 |.iw G H id,hh=>let ⟨b0,b1,b2,b3,b4,b5,e,k0,k1,k2,k3,k4,k5⟩:=hh;⟨b0,b1,b2,b3,b4,b5,e,k0.soft g,k1.soft g,k2.soft g,k3.soft g,k4.soft g,k5.soft g⟩
 |.claim G H,hh=>let ⟨b0,b1,b2,b3,b4,e,k0,k1,k2,k3,k4⟩:=hh;⟨b0,b1,b2,b3,b4,e,k0.soft g,k1.soft g,k2.soft g,k3.soft g,k4.soft g⟩
 |.fresh G,hh=>let ⟨b0,b1,b2,b3,e,k0,k1,k2,k3⟩:=hh;⟨b0,b1,b2,b3,e,k0.soft g,k1.soft g,k2.soft g,k3.soft g⟩
 |.next G head at_,hh=>let ⟨b0,b1,b2,b3,b4,b5,e,k0,k1,k2,k3,k4,k5⟩:=hh;⟨b0,b1,b2,b3,b4,b5,e,k0.soft g,k1.soft g,k2.soft g,k3.soft g,k4.soft g,k5.soft g⟩
 |.free G head at_,hh=>let ⟨b0,b1,b2,b3,b4,b5,e,k0,k1,k2,k3,k4,k5⟩:=hh;⟨b0,b1,b2,b3,b4,b5,e,k0.soft g,k1.soft g,k2.soft g,k3.soft g,k4.soft g,k5.soft g⟩
 |.dX G head at_ id,hh=>let ⟨b0,b1,b2,b3,b4,b5,e,k0,k1,k2,k3,k4,k5⟩:=hh;⟨b0,b1,b2,b3,b4,b5,e,k0.soft g,k1.soft g,k2.soft g,k3.soft g,k4.soft g,k5.soft g⟩
 |.fJ x G head,hh=>let ⟨b0,b1,b2,b3,b4,b5,e,k0,k1,k2,k3,k4,k5⟩:=hh;⟨b0,b1,b2,b3,b4,b5,e,k0.soft g,k1.soft g,k2.soft g,k3.soft g,k4.soft g,k5.soft g⟩
 |.eU x G head,hh=>let ⟨b0,b1,b2,b3,b4,b5,e,k0,k1,k2,k3,k4,k5⟩:=hh;⟨b0,b1,b2,b3,b4,b5,e,k0.soft g,k1.soft g,k2.soft g,k3.soft g,k4.soft g,k5.soft g⟩
 |.push G head,hh=>let ⟨b0,b1,b2,b3,b4,e,k0,k1,k2,k3,k4⟩:=hh;⟨b0,b1,b2,b3,b4,e,k0.soft g,k1.soft g,k2.soft g,k3.soft g,k4.soft g⟩
 |.dV G head,hh=>let ⟨b0,b1,b2,b3,b4,e,k0,k1,k2,k3,k4⟩:=hh;⟨b0,b1,b2,b3,b4,e,k0.soft g,k1.soft g,k2.soft g,k3.soft g,k4.soft g⟩
 |.over G,hh=>let ⟨b0,b1,b2,b3,b4,e,k0,k1,k2,k3,k4⟩:=hh;⟨b0,b1,b2,b3,b4,e,k0.soft g,k1.soft g,k2.soft g,k3.soft g,k4.soft g⟩
 |.iB G head,hh=>let ⟨b0,b1,b2,b3,b4,b5,e,k0,k1,k2,k3,k4,k5⟩:=hh;⟨b0,b1,b2,b3,b4,b5,e,k0.soft g,k1.soft g,k2.soft g,k3.soft g,k4.soft g,k5.soft g⟩
 |.eu G head,hh=>let ⟨b0,b1,b2,b3,b4,b5,e,k0,k1,k2,k3,k4,k5⟩:=hh;⟨b0,b1,b2,b3,b4,b5,e,k0.soft g,k1.soft g,k2.soft g,k3.soft g,k4.soft g,k5.soft g⟩
 |.draw,hh=>let ⟨b0,b1,b2,e,k0,k1,k2⟩:=hh;⟨b0,b1,b2,e,k0.soft g,k1.soft g,k2.soft g⟩
 |.eX H now,hh=>let ⟨b0,b1,b2,e,k0,k1,k2⟩:=hh;⟨b0,b1,b2,e,k0.soft g,k1.soft g,k2.soft g⟩
 |.turn H now,hh=>let ⟨b0,b1,b2,b3,b4,e,k0,k1,k2,k3,k4⟩:=hh;⟨b0,b1,b2,b3,b4,e,k0.soft g,k1.soft g,k2.soft g,k3.soft g,k4.soft g⟩
 |.eB,hh=>let ⟨b0,b1,b2,e,k0,k1,k2⟩:=hh;⟨b0,b1,b2,e,k0.soft g,k1.soft g,k2.soft g⟩
 |.wait i,hh=>let ⟨b0,b1,b2,b3,b4,e,k0,k1,k2,k3,k4⟩:=hh;⟨b0,b1,b2,b3,b4,e,k0.soft g,k1.soft g,k2.soft g,k3.soft g,k4.soft g⟩
 |.turns [] r,hh=>let ⟨b0,b1,b2,b3,e,k0,k1,k2,k3⟩:=hh;⟨b0,b1,b2,b3,e,k0.soft g,k1.soft g,k2.soft g,k3.soft g⟩
 |.turns (x::l) r,hh=>let ⟨b0,b1,b2,b3,b4,e,k0,k1,k2,k3,k4⟩:=hh;⟨b0,b1,b2,b3,b4,e,k0.soft g,k1.soft g,k2.soft g,k3.soft g,k4.soft g⟩
 |.cZ,hh=>let ⟨b0,b1,b2,e,k0,k1,k2⟩:=hh;⟨b0,b1,b2,e,k0.soft g,k1.soft g,k2.soft g⟩
 |.abort e aI,hh=>let ⟨b0,b1,b2,b3,b4,e,k0,k1,k2,k3,k4⟩:=hh;⟨b0,b1,b2,b3,b4,e,k0.soft g,k1.soft g,k2.soft g,k3.soft g,k4.soft g⟩
end
theorem But.soft {L:eH} {w E:World} {b:Nat} (hl:L b=some .tmp) (h:But b w E):kF L w L E:=⟨by rw[h.size];exact zr _,fun k Y e=>h.block k (by rintro rfl;rw[hl] at e;cases e),fun _ _ e=>e⟩
theorem heap_setCell_same {w:World} {b:Nat} {cs:Array Value} {T:TypeId} (h:w.heap[b]? =some (.cells cs T)) (i:Nat) (v:Value):(w.setCell (J b i) v).heap[b]? =some (.cells (cs.setIfInBounds i v) T):=by
 simp only[World.setCell,Array.getElem?_modify,h];simp
theorem kN {w:World} {b:Nat} {a0 a1 a2 a3 a4 a5:Value} {T:TypeId} (h:w.heap[b]? =some (.cells #[a0,a1,a2,a3,a4,a5] T)) (v0 v1 v2 v3 v4 v5:Value):(w.setCells b 0 [v0,v1,v2,v3,v4,v5]).heap[b]? =some (.cells #[v0,v1,v2,v3,v4,v5] T):=by
 have h1:=heap_setCell_same h 0 v0;have h2:=heap_setCell_same h1 1 v1;have h3:=heap_setCell_same h2 2 v2;have h4:=heap_setCell_same h3 3 v3;have h5:=heap_setCell_same h4 4 v4;have h6:=heap_setCell_same h5 5 v5;exact h6
theorem wB {w:World} {b:Nat} {a0 a1 a2 a3 a4:Value} {T:TypeId} (h:w.heap[b]? =some (.cells #[a0,a1,a2,a3,a4] T)) (v0 v1 v2 v3 v4:Value):(w.setCells b 0 [v0,v1,v2,v3,v4]).heap[b]? =some (.cells #[v0,v1,v2,v3,v4] T):=by
 have h1:=heap_setCell_same h 0 v0;have h2:=heap_setCell_same h1 1 v1;have h3:=heap_setCell_same h2 2 v2;have h4:=heap_setCell_same h3 3 v3;have h5:=heap_setCell_same h4 4 v4;exact h5
theorem kP {w:World} {b:Nat} {cs:Array Value} {T:TypeId} (h:w.heap[b]? =some (.cells cs T)):w.there b 0 cs.size:=by
 intro j hj;rw[Nat.zero_add];refine⟨?_,by simp[World.frozen?,h]⟩;rw[cell_of_row w b j _ _ _ h];simp[hj]
theorem eZ {P:Program} {fn:Func} {p u:Tmp} {ty:TypeId} (h:fn.results=#[.cell p ty,.tmp u]) (tmps:Array Value) (w:World) (g:Nat) (t:TypeId) (cs:Array Value) (fr:Nat×Nat) (d:TypeDesc)
 (hp:tmps.getD p undef=R g 0) (hg:w.heap[g]? =some (.cells cs t fr))
 (hu:P.underlying ty=some d) (hd:(match d with|.struct _|.array _ _=>true|_=>false)=true) (hi:(P.info? ty).map (·.size)=some cs.size):
 (results fn tmps).run P w=.ok (.tuple #[.agg cs,tmps.getD u undef]) w:=by
 rw[results_cell_tmp h,hp];simp[asAddr,run_loadVar_row w g t ty cs fr d hg hu hd hi,Result.andThen]
theorem ES (w:World) (re rv ro rr:Int) (a:Option Addr) (cap:Nat):
 zk 53 #[.agg #[I re,I rv,.slice a 0 cap,I ro,I rr]] w fun e E=>e=.returned (.agg #[I re,I rv,.slice none 0 0,I ro,I rr])∧Below w.heap.size w E:=by
 have Z:Below w.heap.size w (((w.alloc (.cells #[I re,I rv,.slice none 0 0,I ro,I rr] 46))).alloc (.cells #[I re,I rv,.slice none 0 0,I ro,I rr] 46)):=(((Below.refl _ _).alloc (zr _) _)).alloc (by simp) _;have HB:=U Z;clear Z
 cases a with
 |none=>
  go_enter Tryz.func53,Tryz.ntmps53;go_wp2
  (try simp only[Exit.inBlock,Exit.then])
  refine bodyPost_ret (results_cell_row rfl _ _ (w.heap.size+1) 46 #[I re,I rv,.slice none 0 0,I ro,I rr] _ _ rfl (heap_alloc2_new w _ _) Tryz.underlying46 rfl (by kernel_rfl)) rfl ?_;exact⟨rfl,HB.out⟩
 |some x=>
  go_enter Tryz.func53,Tryz.ntmps53;go_wp2
  (try simp only[Exit.inBlock,Exit.then])
  refine bodyPost_ret (results_cell_row rfl _ _ (w.heap.size+1) 46 #[I re,I rv,.slice none 0 0,I ro,I rr] _ _ rfl (heap_alloc2_new w _ _) Tryz.underlying46 rfl (by kernel_rfl)) rfl ?_;exact⟨rfl,HB.out⟩
theorem lG {w:World} {e:TypeId} {n size:Nat} {v:Value} {xs:List Value} (h:w.ownsRow 0 e size v n xs) {j:Nat} {u:Value} (hj:xs[j]? =some u):∃ g cap,v=.slice (some (J g 0)) n cap∧w.cell? (J g j)=some u:=by
 have hc:=fun g hg=>h.cells (g:=g) hg
 rcases h.2 with ⟨rfl,h0⟩|⟨g,cap,cur,rfl,Z,hg,hnc,hcm,hcs,htake⟩
 . have h1:=h.1
   rw[h0] at h1;have:xs=[]:=by simpa using h1
   rw[this] at hj;simp at hj
 . refine⟨g,cap,rfl,?_⟩
   have:=hc g rfl j u hj;have hadd:((J g 0):Addr).add j=(J g j):=by unfold Addr.add;split<;>simp_all
   rw[hadd] at this;exact this
theorem ET (l:List (Nat×Nat×Bool)) (i:Nat) (h:i<l.length):(kC l)[3*i]? =some (i64 (l.getD i (0,0,false)).1)∧(kC l)[3*i+1]? =some (u64 (l.getD i (0,0,false)).2.1)∧(kC l)[3*i+2]? =some (.bool (l.getD i (0,0,false)).2.2):=by
 induction l generalizing i with
 |nil=>simp at h
 |cons x l ih=>
  cases i with
  |zero=>simp[kC]
  |succ i=>
   have:=ih i (by simpa using h);simp only[kC,List.flatMap_cons] at this ⊢;have e:∀ k,([i64 x.1,u64 x.2.1,.bool x.2.2]++List.flatMap (fun r=>[i64 r.1,u64 r.2.1,.bool r.2.2]) l)[3*(i+1)+k]? =(List.flatMap (fun r=>[i64 r.1,u64 r.2.1,.bool r.2.2]) l)[3*i+k]? :=by
    intro k;rw[EB (by simp;omega)]
    congr 1
    simp;omega
   have e0:=e 0;simp only[Nat.add_zero] at e0;rw[e0,e 1,e 2];exact this
theorem EU (t:bL) (i:Nat) (h:i<t.reads.length) (hn:t.needs (t.reads.getD i (0,0,false))=false):dH t i=dH t (i+1):=by
 unfold dH;have e:t.reads.length - i=(t.reads.length - (i+1))+1:=by omega
 have k:t.need (t.reads.length - i) i=t.need (t.reads.length - (i+1)) (i+1):=by
  rw[e];show (if i<t.reads.length∧t.needs (t.reads.getD i (0,0,false))=false then _ else _)=_;rw[aW ⟨h,hn⟩]
 rw[k]
theorem yT (t:bL) (n i:Nat) (h:¬ (i<t.reads.length∧t.needs (t.reads.getD i (0,0,false))=false)):t.need n i=i:=by
 cases n with
 |zero=>rfl
 |succ n=>
  show (if i<t.reads.length∧t.needs (t.reads.getD i (0,0,false))=false then _ else _)=_;rw[bu h]
theorem IC (t:bL):dH t t.reads.length=jT t 0:=by
 unfold dH;rw[yT _ _ _ (by omega),aW rfl]
theorem EW (t:bL) (i:Nat) (h:i<t.reads.length) (hn:t.needs (t.reads.getD i (0,0,false))=true):dH t i=.start ⟨(t.reads.getD i (0,0,false)).1,t.ay,.judge i (t.reads.getD i (0,0,false)).2.1⟩:=by
 unfold dH;rw[yT _ _ _ (fun h=>by rw[hn] at h;exact absurd h.2 (by simp)),bu (by omega)]
theorem yU {A:az} {D:St} {w:World} (hR:aF A D w) (s:Nat) (t:bL) (ht:D.ai.getD s none=some t) (i0:Nat) (hi0:i0<=t.reads.length) (hrl:t.reads.length<1000000):
 zk 122 #[R A.V 0,R (A.bt s) 0,R (A.bc s) 0,I i0] w (bG A w s (D,dH t i0)):=by
 obtain⟨r4,g4,f0,f1,f2,f3⟩:=jK hR #[R A.V 0] 32 #[R (A.bt s) 0] 100 #[R (A.bc s) 0] 105 #[I i0] 3;have HR:=U (zA r4 (zA g4 (zA f0 (zA f1 (zA f2 f3)))));have HT:=U (zA ht (zA hi0 hrl));have HW:=U hR;have aY:=hR.mem.all (.reads s);rw[mem_reads ht] at aY;obtain⟨av,jB,hv,_⟩:=Ow.bO aY.1;have HV:=U hv;clear hR ht hi0 hrl r4 g4 f0 f1 f2 f3 aY hv;go_enter Tryz.func122,Tryz.ntmps122;go_wp2_with fail
 go_loopw [10] (fun _ wr=>∃ i:Nat,i<=t.reads.length∧dH t i0=dH t i∧aF A D wr∧Grow A.L w A.L wr∧Fix A.L wr w.heap.size (.cells #[R A.V 0] 32)∧Fix A.L wr (w.heap.size+1) (.cells #[R (A.bt s) 0] 100)∧Fix A.L wr (w.heap.size+1+1) (.cells #[R (A.bc s) 0] 105)∧Fix A.L wr (w.heap.size+1+1+1) (.cells #[I i] 3)) (fun _ wr=>match wr.cell? ⟨w.heap.size+1+1+1,0,none⟩ with|some (.int _ i)=>((t.reads.length:Int) - i).toNat|_=>0)
 case atStart=>
  obtain⟨r4,g4,f0,f1,f2,f3⟩:=HR.out;exact⟨i0,HT.out.2.1,rfl,r4,g4,f0,f1,f2,f3⟩
 case round=>
  obtain⟨i,hi,hj,r,g,f0,f1,f2,f3⟩:=hrel;have c0:=f0.cell 0 (v:=R A.V 0) rfl;have c1:=f1.cell 0 (v:=R (A.bt s) 0) rfl;have c2:=f2.cell 0 (v:=R (A.bc s) 0) rfl;have c3:=f3.cell 0 (v:=I i) rfl;have t8:=r.fI HT.out.1 8 (v:=A.fO s) rfl;have hbase:(wr.cell? ⟨w.heap.size+1+1+1,0,none⟩)=zt i:=c3;rw[HV.out] at t8
  by_cases hlt:i<t.reads.length
  . have aY:=r.mem.all (.reads s)
    rw[mem_reads HT.out.1] at aY;obtain⟨e0,e1,e2⟩:=ET t.reads i hlt;obtain⟨g0,cap0,hv0,k0⟩:=lG aY.1 e0;obtain⟨g1,Ay,hv1,k1⟩:=lG aY.1 e1;obtain⟨g2,cap2,hv2,k2⟩:=lG aY.1 e2;rw[hv0] at hv1 hv2;obtain rfl:g0=g1:=by simp at hv1;exact hv1.1
    obtain rfl:g0=g2:=by simp at hv2;exact hv2.1
    rw[HV.out] at hv0;obtain⟨rfl,rfl⟩:av=za g0 0∧jB=cap0:=by simpa using hv0
    have HK:Hid (∀ E,aF A D E->Grow A.L wr A.L E->E.cell? ⟨w.heap.size+1,0,none⟩=zs (A.bt s) 0∧E.cell? ⟨w.heap.size+1+1+1,0,none⟩=zt i∧E.cell? (J (A.bt s) 8)=some (.slice (some (J g0 0)) t.reads.length jB)∧E.cell? ⟨g0,3*i,none⟩=some (I ((t.reads.getD i (0,0,false)).1:Int))∧E.cell? ⟨g0,3*i+1,none⟩=some (zu ((t.reads.getD i (0,0,false)).2.1:Int))∧E.cell? ⟨g0,3*i+2,none⟩=some (.bool (t.reads.getD i (0,0,false)).2.2)):=by
     intro E r' g';have hown':=r'.mem.all (.reads s);rw[mem_reads HT.out.1] at hown';obtain⟨_,_,Qq,RJ⟩:=lG hown'.1 e0;obtain⟨_,_,Qr,k1'⟩:=lG hown'.1 e1;obtain⟨_,_,Qs,k2'⟩:=lG hown'.1 e2;rw[HV.out] at Qq Qr Qs;simp at Qq Qr Qs;rw[<-Qq.1] at RJ;rw[<-Qr.1] at k1';rw[<-Qs.1] at k2';have WZ:=r'.fI HT.out.1 8 (v:=A.fO s) rfl;rw[HV.out] at WZ;exact⟨(f1.grow g').cell 0 rfl,(f3.grow g').cell 0 rfl,WZ,RJ,k1',k2'⟩
    have HN:=U (fun E (q:aF A D E)=>Io q s t HT.out.1 (t.reads.getD i (0,0,false)).1 (t.reads.getD i (0,0,false)).2.1 (t.reads.getD i (0,0,false)).2.2);have HS:Hid (t.needs (t.reads.getD i (0,0,false))=false->dH t i=dH t (i+1)):=EU t i hlt;have W9:Hid (t.needs (t.reads.getD i (0,0,false))=true->dH t i=.start ⟨(t.reads.getD i (0,0,false)).1,t.ay,.judge i (t.reads.getD i (0,0,false)).2.1⟩):=EW t i hlt;have HQ:=U (zA hj (zA r (zA g (zA hlt (zA f0 (zA f1 (zA f2 f3)))))));have nM:Hid (aF A D wr.drew):=r.drew;have HG:Hid (Grow A.L wr A.L wr.drew):=Grow.drew _ _;have b1:decide ((i:Int)<(t.reads.length:Int))=true:=by simpa using hlt
    have b2:decide (i<t.reads.length)=true:=by simpa using hlt
    have b3:((i:Int)<(t.reads.length:Int))=True:=by simpa using hlt
    have n1:IntKind.i64.wrap ((i:Int)+1)=(i:Int)+1:=by rw[je];have:=HT.out.2.2;omega
    rw[Nat.mul_comm 3] at k0 k1 k2 HK;clear hj r g hi f0 f1 f2 f3 aY e0 e1 e2 hv0 hv1 hv2;generalize hnb:t.needs (t.reads.getD i (0,0,false))=nb at*;generalize (t.reads.getD i (0,0,false)).1=F at*;generalize (t.reads.getD i (0,0,false)).2.1=G at*;generalize (t.reads.getD i (0,0,false)).2.2=got at*;clear hnb
    cases nb with
    |false=>
     clear W9;go_wp2_with fail
     go_region_held3 (fun E=>E.cell? ⟨w.heap.size+1,0,none⟩=zs (A.bt s) 0∧E.cell? ⟨w.heap.size+1+1+1,0,none⟩=zt i∧E.cell? (J (A.bt s) 8)=some (.slice (some (J g0 0)) t.reads.length jB)∧E.cell? ⟨g0,i*3,none⟩=zt F∧E.cell? ⟨g0,i*3+1,none⟩=zv G∧E.cell? ⟨g0,i*3+2,none⟩=zb got)
      (first|exact⟨c1,c3,t8,k0,k1,k2⟩|assumption|exact HK.out _ (by assumption) (by assumption))
      (first|(go_at_call 143;refine (HN.out _ nM.out).mono ?_;rintro e H ⟨rfl,Z⟩;have q1:=nM.out.below Z;have q2:=HG.out.trans (Grow.below (L:=A.L) Z)))
     obtain⟨hj,r,g,hlt,f0,f1,f2,f3⟩:=HQ.out;have F3:=f3.grow q2;have y3:=F3.cell 0 (v:=I i) rfl;have z3:=F3.frozen 0;obtain⟨r5,g5⟩:=HW.out.nZ q1 (g.trans q2) rfl rfl (a:=⟨w.heap.size+1+1+1,0,none⟩) (by simp;omega) F3.1 (I ((i:Int)+1));have F0:=(f0.grow q2).setOther (a:=⟨w.heap.size+1+1+1,0,none⟩) (by simp<;>omega) (I ((i:Int)+1));have F1:=(f1.grow q2).setOther (a:=⟨w.heap.size+1+1+1,0,none⟩) (by simp<;>omega) (I ((i:Int)+1));have F2:=(f2.grow q2).setOther (a:=⟨w.heap.size+1+1+1,0,none⟩) (by simp<;>omega) (I ((i:Int)+1));have HZ:=U (zA r5 (zA g5 (zA F0 (zA F1 (zA F2 (F3.vI (I ((i:Int)+1))))))));have HB:=U hbase;clear hj r g hlt f0 f1 f2 f3 F3 r5 g5 F0 F1 F2 hbase;go_wp2_with fail
     go_roundw
     case rel=>
      obtain⟨r5,g5,F0,F1,F2,F3⟩:=HZ.out;exact⟨i+1,by have:=HQ.out.2.2.2.1;omega,HQ.out.1.trans (HS.out trivial),r5,g5,F0,F1,F2,F3⟩
     case measure=>
      rw[HB.out,(HZ.out.2.2.2.2.2).cell 0 (v:=I ((i:Int)+1)) rfl];have:=HQ.out.2.2.2.1;simp;omega
    |true=>
     clear HS;go_wp2_with fail
     go_region_held3 (fun E=>E.cell? ⟨w.heap.size+1,0,none⟩=zs (A.bt s) 0∧E.cell? ⟨w.heap.size+1+1+1,0,none⟩=zt i∧E.cell? (J (A.bt s) 8)=some (.slice (some (J g0 0)) t.reads.length jB)∧E.cell? ⟨g0,i*3,none⟩=zt F∧E.cell? ⟨g0,i*3+1,none⟩=zv G∧E.cell? ⟨g0,i*3+2,none⟩=zb got)
      (first|exact⟨c1,c3,t8,k0,k1,k2⟩|assumption|exact HK.out _ (by assumption) (by assumption))
      (first|(go_at_call 143;refine (HN.out _ nM.out).mono ?_;rintro e H ⟨rfl,Z⟩;have q1:=nM.out.below Z;have q2:=HG.out.trans (Grow.below (L:=A.L) Z)))
     obtain⟨hj,r,g,hlt,f0,f1,f2,f3⟩:=HQ.out;have HX:Hid (∀ n w5,H.drewN n=w5->aF A D w5∧Grow A.L w A.L w5∧Grow A.L wr A.L w5∧w5.cell? ⟨w.heap.size+1,0,none⟩=zs (A.bt s) 0∧w5.cell? ⟨w.heap.size+1+1+1,0,none⟩=zt i∧w5.cell? (J (A.bt s) 8)=some (.slice (some (J g0 0)) t.reads.length jB)∧w5.cell? ⟨g0,i*3,none⟩=zt F∧w5.cell? ⟨g0,i*3+1,none⟩=zv G∧w5.cell? ⟨g0,i*3+2,none⟩=zb got):=by
      rintro n w5 rfl;obtain⟨x1,x2,x3,x4,x5,x6⟩:=HK.out _ (q1.drewN n) (q2.trans (Grow.drewN _ _ n));exact⟨q1.drewN n,(g.trans q2).trans (Grow.drewN _ _ n),q2.trans (Grow.drewN _ _ n),x1,x2,x3,x4,x5,x6⟩
     have d1:((i:Int)==(t.reads.length:Int))=false:=by simp;omega
     have d2:(i==t.reads.length)=false:=by simp;omega
     have d3:((i:Int)=(t.reads.length:Int))=False:=by simp;omega
     obtain⟨_,_,_,x1,x2,x3,_⟩:=HX.out 0 H rfl;have HP:=U (zA q1 q2);clear hj r g hlt f0 f1 f2 f3 q1 q2 c0 c1 c2 c3 t8 k0 k1 k2 hbase;go_wp2_with fail
     go_quiet (fail)
     generalize jg:H.drewN _=w5;obtain⟨r5,g5,U5,x1,x2,x3,x4,x5,x6⟩:=HX.out _ w5 jg;obtain⟨y1,y2,y3,y4,y5,y6⟩:=HK.out (w5.alloc (.cells #[I 0,zu 0,.bool false] 250)) (r5.alloc _) (U5.trans (Grow.alloc _ _ _));have H5:=U (zA r5 (zA g5 U5));clear r5 g5 U5 jg;go_wp2_with fail
     go_region
     generalize pW:(w5.alloc _).drew=w6;obtain⟨_,_,_,hlt,f0,f1,f2,f3⟩:=HQ.out;obtain⟨r7,g7,f4⟩:=dz H5.out.1 #[I F,zu G,.bool got] 250;have yj:Grow A.L w5 A.L w6:=by rw[<-pW];exact g7.trans (Grow.drew _ _)
     have r6:aF A D w6:=by rw[<-pW];exact r7.drew
     have F4:Fix A.L w6 w5.heap.size (.cells #[I F,zu G,.bool got] 250):=by rw[<-pW];exact f4.grow (Grow.drew _ _)
     have gq:=(H5.out.2.2).trans yj;have F0:=f0.grow gq;have F1:=f1.grow gq;have F2:=f2.grow gq;have F3:=f3.grow gq;have y0:=F0.cell 0 (v:=R A.V 0) rfl;have y1:=F1.cell 0 (v:=R (A.bt s) 0) rfl;have y4:=F4.cell 0 (v:=I F) rfl;have yt:=r6.fI HT.out.1 4 (v:=zu t.ay) rfl;have gd:=Grow.drew A.L w6;have hf:=sH r6.drew s F t.ay (.func (.func 145) #[] #[R w5.heap.size 0,R w.heap.size 0,.pointer (some ⟨w.heap.size+1,0,none⟩),.pointer (some ⟨w.heap.size+1+1,0,none⟩),.pointer (some ⟨w.heap.size+1+1+1,0,none⟩)]) (.judge i G) ⟨_,_,_,_,_,rfl,⟨_,_,_,F4.grow gd⟩,F0.box.grow gd,F1.box.grow gd,F2.box.grow gd,F3.box.grow gd⟩;have HE:=U (zA hf ((H5.out.2.1.trans yj).trans gd));clear hlt f0 f1 f2 f3 r7 g7 f4 yj r6 F4 gq F0 F1 F2 F3 gd hf pW x1 x2 x3 x4 x5 x6;go_wp2_with fail;refine wp_region_still_tail 9 (by kernel_rfl) (by kernel_rfl) ?_;simp only[jZ,j6,kg,kr]
     repeat still_step
     refine wpStill_nil ?_;change wpList _ _ _ _ _ w6.drew;generalize w6.drew=wd at*;go_wp2_with (go_at_call 114;refine HE.out.1.mono ?_;rintro e w2 ⟨A2,v,rfl,p1,p2,p3,p4⟩);go_ret;rw[HQ.out.1,W9.out trivial];exact⟨A2,v,rfl,p1,HE.out.2.trans p2,p3,p4⟩
  . obtain rfl:i=t.reads.length:=by omega
    have HQ:=U (zA hj (zA r g));have HA:Hid (∀ E,aF A D E->zk 144 #[R A.V 0,R (A.bt s) 0,R (A.bc s) 0,I 0] E (bG A E s (D,jT t 0))):=fun E q=>Co q s t HT.out.1 0
    have HJ:=U (IC t);clear hj r g hi hlt f0 f1 f2 f3;generalize t.reads.length=n at*;have d1:decide ((n:Int)<(n:Int))=false:=by simp
    go_wp2_with fail
    go_quiet (fail)
    generalize jg:wr.drewN _=w5;have c0:w5.cell? (J w.heap.size 0)=zs A.V 0:=by rw[<-jg];exact c0
    have c1:w5.cell? ⟨w.heap.size+1,0,none⟩=zs (A.bt s) 0:=by rw[<-jg];exact c1
    have c2:w5.cell? ⟨w.heap.size+1+1,0,none⟩=zs (A.bc s) 0:=by rw[<-jg];exact c2
    have c3:w5.cell? ⟨w.heap.size+1+1+1,0,none⟩=zt n:=by rw[<-jg];exact c3
    have t8:w5.cell? (J (A.bt s) 8)=some (.slice av n jB):=by rw[<-jg];exact t8
    have r5:aF A D w5:=by rw[<-jg];exact HQ.out.2.1.drewN _
    have g5:Grow A.L w A.L w5:=by rw[<-jg];exact HQ.out.2.2.trans (Grow.drewN _ _ _)
    have H5:=U (zA r5 g5);clear r5 g5 jg;go_wp2_with fail
    go_quiet (fail)
    go_wp2_with (go_at_call 144;refine (HA.out _ (H5.out.1.drewN _)).mono ?_;rintro e w2 ⟨A2,v,rfl,p1,p2,p3,p4⟩);go_ret;rw[HQ.out.1,HJ.out];exact⟨A2,v,rfl,p1,(H5.out.2.trans (Grow.drewN _ _ _)).trans p2,p3,p4⟩
theorem Qu:(Tryz.prog.info? 152).map (fun i=>(i.zero,i.size,i.bytes))=some (some (.agg #[I 0,I 0]),2,16):=by kernel_rfl
theorem wC:∀ (l:List (Nat×Nat)),∀ u∈bQ l,u.oneCell'=true
 |[],u,h=>by cases h
 |p::l,u,h=>by
  have e:bQ (p::l)=I p.1::I p.2::bQ l:=rfl;rw[e] at h
  rcases List.mem_cons.1 h with rfl|h
  . rfl
  . rcases List.mem_cons.1 h with rfl|h
    . rfl
    . exact wC l u h
theorem Az {w E:World} {base:Nat} {v:Value} {n b:Nat} {xs:List Value} {cs:Array Value} {T:TypeId} (h:w.ownsRow base 152 2 v n xs) (Z:But b w E) (hc:w.heap[b]? =some (.cells cs T)) (hT:T≠152):E.ownsRow base 152 2 v n xs:=by
 rcases h.2 with ⟨e1,e2⟩|⟨g,cap',cur,hv,hb',hg,hx1,hx2,hx3,hx4⟩
 . exact⟨h.1,.inl ⟨e1,e2⟩⟩
 . have U6:g≠b:=by
    rintro rfl;rw[hc] at hg;simp only[Option.some.injEq,Obj.cells.injEq] at hg;exact hT hg.2.1
   exact⟨h.1,.inr ⟨g,cap',cur,hv,hb',(Z.block g U6).trans hg,hx1,hx2,hx3,hx4⟩⟩
theorem rz (w:World) (re rv ro rr:Int) (a:Option Addr) (n cap:Nat) (ps:List (Nat×Nat)) (hr:Ow.Row w 0 2 (.slice a n cap) (bQ ps)) (hn:ps.length=n) (hl:n<=1000000):
 zk 53 #[.agg #[I re,I rv,.slice a n cap,I ro,I rr]] w fun e E=>∃ a' c',e=.returned (.agg #[I re,I rv,.slice a' n c',I ro,I rr])∧E.ownsRow w.heap.size 152 2 (.slice a' n c') n (bQ ps)∧Below w.heap.size w E:=by
 obtain⟨i0,hi,hz0,hz1,hz2⟩:=info_parts Qu;have HR:=U hr;have HM:=U (zA hn hl);obtain⟨W,hW⟩:∃ W,W=(w.alloc (.cells #[I re,I rv,.slice a n cap,I ro,I rr] 46)).alloc (.cells #[I 0,I 0,.slice none 0 0,I 0,I 0] 46):=⟨_,rfl⟩
 have hWs:W.heap.size=w.heap.size+1+1:=by rw[hW];simp
 have PD:Below w.heap.size w W:=by rw[hW];exact (((Below.refl _ _).alloc (zr _) _)).alloc (by simp) _
 have hW0:W.heap[w.heap.size]? =some (.cells #[I re,I rv,.slice a n cap,I ro,I rr] 46):=by rw[hW,heap_alloc_old _ _ (by simp),heap_alloc_new]
 have hW1:W.heap[w.heap.size+1]? =some (.cells #[I 0,I 0,.slice none 0 0,I 0,I 0] 46):=by
  have:=heap_alloc_new (w.alloc (.cells #[I re,I rv,.slice a n cap,I ro,I rr] 46)) (.cells #[I 0,I 0,.slice none 0 0,I 0,I 0] 46);rw[hW];simpa using this
 have HW:=U (zA hWs (zA PD (zA hW0 (zA hW1 (hr.below PD)))));have HF:Hid (∀ v' w2,w2.ownsRow w.heap.size 152 2 v' n (bQ ps)->W.grownBy w2 none->∃ a' c',v'=.slice a' n c'∧w2.heap[w.heap.size]? =some (.cells #[I re,I rv,.slice a n cap,I ro,I rr] 46)∧w2.heap[w.heap.size+1]? =some (.cells #[I 0,I 0,.slice none 0 0,I 0,I 0] 46)∧w2.cell? (J w.heap.size 2)=some (.slice a n cap)∧w2.frozen? (J w.heap.size 2)=false∧Below w.heap.size w w2):=by
  intro v' w2 q1 q2;obtain⟨a',c',rfl,_⟩:=Ow.bO q1;have h0:w2.heap[w.heap.size]? =_:=(q2.block _ (by rw[hWs];omega) (by simp)).trans hW0;have h1:w2.heap[w.heap.size+1]? =_:=(q2.block _ (by rw[hWs];omega) (by simp)).trans hW1;refine⟨a',c',rfl,h0,h1,by simp[World.cell?,h0],by simp[World.frozen?,h0],⟨q2.os.trans PD.os,q2.tape.trans PD.tape,q2.output.trans PD.output,fq PD.size q2.size,fun b Z=>(q2.block b (by rw[hWs];omega) (by simp)).trans (PD.block b Z)⟩⟩
 have XX:W.cell? (J w.heap.size 2)=some (.slice a n cap):=by simp[World.cell?,hW0]
 clear hW0 hW1 PD hr hn hl;go_enter Tryz.func53,Tryz.ntmps53;go_upto_region 1 with fail
 rw[<-hW];clear hW;go_upto_region 2 with (refine Ow.sF W rfl (.const (.slice none 0 0)) (.tmp 4) 44 rfl w.heap.size 152 i0 _ 2 16 Tryz.underlying44 hi hz0 hz1 hz2 rfl (by decide) (.slice none 0 0) 0 [] rfl (World.ownsRow_nil _ _ _ _) 0 (.slice a n cap) (bQ ps) rfl HW.out.2.2.2.2 n (by rw[mY,HM.out.1]) (wC ps) (by have:=HM.out.2;unfold maxLen;omega) (by have:=HM.out.2;omega) (by rw[HW.out.1];omega) ?_;intro v' w2 q1 q2;rw[List.nil_append,Nat.zero_add] at q1;obtain⟨a',c',rfl,f0,f1,f2,f3,f4⟩:=HF.out _ _ q1 q2;have HQ:=U (zA q1 (zA f0 (zA f1 f4)));clear q1 q2 f0 f1 f4)
 generalize hw3:w2.setCell (J w.heap.size 2) (.slice a' n c')=w3 at*;obtain⟨q1,f0,f1,f4⟩:=HQ.out;have g0:w3.heap[w.heap.size]? =some (.cells #[I re,I rv,.slice a' n c',I ro,I rr] 46):=by rw[<-hw3];exact heap_setCell_same f0 2 _
 have g1:w3.heap[w.heap.size+1]? =some (.cells #[I 0,I 0,.slice none 0 0,I 0,I 0] 46):=by rw[<-hw3,Below.heap_setCell _ _ _ _ (by simp)];exact f1
 have gb:Below w.heap.size w w3:=by rw[<-hw3];exact⟨f4.os,f4.tape,f4.output,by simpa [World.setCell] using f4.size,fun b Z=>(Below.heap_setCell _ _ _ _ (by rintro rfl;simp at Z)).trans (f4.block b Z)⟩
 have go:w3.ownsRow w.heap.size 152 2 (.slice a' n c') n (bQ ps):=by
  rw[<-hw3];exact Az q1 (But.setCell w2 (J w.heap.size 2) _) f0 (by decide)
 have HG:=U (zA g0 (zA (kP g1) (zA gb (zA go g1))));have y0:w3.cell? (J w.heap.size 0)=zt re:=by simp[World.cell?,g0]
 have y1:w3.cell? (J w.heap.size 1)=zt rv:=by simp[World.cell?,g0]
 have y2:w3.cell? (J w.heap.size 2)=some (.slice a' n c'):=by simp[World.cell?,g0]
 have y3:w3.cell? (J w.heap.size 3)=zt ro:=by simp[World.cell?,g0]
 have y4:w3.cell? (J w.heap.size 4)=zt rr:=by simp[World.cell?,g0]
 clear q1 f0 f1 f4 g0 g1 gb go HQ HF f2 f3 XX;go_wp2_with (refine wpList_store_mid rfl 46 (.tmp 2) (.tmp 7) rfl (w.heap.size+1) 0 #[I re,I rv,.slice a' n c',I ro,I rr] rfl rfl HG.out.2.1 (by kernel_rfl) (by simp[Value.oneCell']) ?_;generalize hws:World.setCells _ _ _ _=ws);have hfin:=wB HG.out.2.2.2.2 (I re) (I rv) (.slice a' n c') (I ro) (I rr);have dE:=But.setCells (w.heap.size+1) [I re,I rv,.slice a' n c',I ro,I rr] 0 w3;rw[show w3.setCells (w.heap.size+1) 0 [I re,I rv,.slice a' n c',I ro,I rr]=ws from hws] at dE hfin;refine bodyPost_ret (results_cell_row rfl _ _ (w.heap.size+1) 46 #[I re,I rv,.slice a' n c',I ro,I rr] _ _ rfl hfin Tryz.underlying46 rfl (by kernel_rfl)) rfl ?_;exact⟨a',c',rfl,Az HG.out.2.2.2.1 dE HG.out.2.2.2.2 (by decide),⟨dE.os.trans HG.out.2.2.1.os,dE.tape.trans HG.out.2.2.1.tape,dE.output.trans HG.out.2.2.1.output,by rw[dE.size];exact HG.out.2.2.1.size,fun b Z=>(dE.block b (by omega)).trans (HG.out.2.2.1.block b Z)⟩⟩
theorem uN {L:eH} {w:World} {base:Nat} {a:Option Addr} {n c:Nat} {xs:List Value} (h:w.ownsRow base 152 2 (.slice a n c) n xs) (hL:∀ b,base<=b->b<w.heap.size->L b=none):lC L w (.slice a n c) xs:=by
 obtain⟨a',c',e,h1,h2,h3⟩:=Ow.bO h;obtain⟨rfl,rfl⟩:a=a'∧c=c':=by simpa using e
 refine⟨⟨a,n,c,rfl,h.1,h1,by unfold maxLen;omega,?_⟩,?_⟩
 . rcases h.2 with ⟨h0,hn⟩|⟨g,cap',cur,hv,Z,hg,hnc,hcm,hcs,htake⟩
   . exact .inl (by first|exact h0|omega)
   . obtain⟨rfl,rfl⟩:a=za g 0∧c=cap':=by simpa using hv
     refine .inr ⟨g,0,rfl,hL g (h.lt g rfl).1 (h.lt g rfl).2,(h.lt g rfl).2,fun j hj=>?_⟩;rw[Nat.zero_add];exact h.cellAt j hj
 . intro g off n' cap hv
   rcases h.2 with ⟨h0,hn⟩|⟨g',cap',cur,hv',Z,hg,hnc,hcm,hcs,htake⟩
   . obtain⟨_,rfl,_⟩:a=za g off∧n=n'∧c=cap:=by simpa using hv
     exact .inl (by first|exact h0|omega)
   . rw[hv'] at hv
     simp only[Value.slice.injEq,Option.some.injEq,Addr.mk.injEq,and_true] at hv;obtain⟨⟨rfl,_⟩,_⟩:=hv;exact .inr ⟨cur,hg⟩
end Go.Proofs.YthicolbbmjfkfaaGreat.Em
