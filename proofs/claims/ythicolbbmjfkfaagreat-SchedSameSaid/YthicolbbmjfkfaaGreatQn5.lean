import Derived.Test.YthicolbbmjfkfaaGreatQn4
set_option linter.unusedVariables false
set_option linter.unusedSimpArgs false
set_option maxRecDepth 100000
set_option maxHeartbeats 1600000
namespace Go.Proofs.YthicolbbmjfkfaaGreat.Em
open Go.ChangeShapes Go.WideShapes Go.ChangeAt Go.RowKit En
def au.tmp (A:au) (b:Nat):au:={A with L:=kD A.L b .tmp}
theorem NY (A:au) (D:St) (b:Nat) (q:bU):bq (A.tmp b) D q=bq A D q:=by cases q<;>rfl
theorem aC.rT {A:au} {D:St} {w:World} (h:aC A D w) (o:Obj):aC (A.tmp w.heap.size) D (w.alloc o)∧Grow A.L w (A.tmp w.heap.size).L (w.alloc o)∧(A.tmp w.heap.size).L w.heap.size=some .tmp∧(w.alloc o).heap[w.heap.size]? =some o:=by
 have g:Grow A.L w (A.tmp w.heap.size).L (w.alloc o):=(Grow.alloc A.L w o).kD (zr _) _;refine⟨⟨⟨fun r=>?_,fun b hb=>?_⟩,h.ev.grow g,h.sl,h.nw,h.nt,h.nv,h.n8,h.nc⟩,g,kU _ _ _,heap_alloc_new w o⟩
 . rw[NY]
   exact (h.mem.all r).frame (fun b hb _=>Below.heap_alloc w o b hb) (fun b hb=>fF (by omega))
 . have:w.heap.size+1<=b:=by simpa using hb
   show kD A.L w.heap.size .tmp b=none;rw[fF (by omega)];exact h.mem.fresh b (by omega)
theorem dW {L L':dE} {w E:World} {b:Nat} {o:Obj} (h:L b=some .tmp∧w.heap[b]? =some o) (g:Grow L w L' E):L' b=some .tmp∧E.heap[b]? =some o:=⟨(g.lab b (fA h.2)).trans h.1,(g.keep b (fA h.2) h.1).trans h.2⟩
structure But (b:Nat) (w E:World):Prop where
 os:E.os=w.os
 tape:E.tape=w.tape
 output:E.output=w.output
 size:E.heap.size=w.heap.size
 block:∀ k,k≠b->E.heap[k]? =w.heap[k]?
theorem But.setCell (w:World) (a:Addr) (v:Value):But a.block w (w.setCell a v):=⟨rfl,rfl,rfl,by simp[World.setCell],fun k Z=>Below.heap_setCell _ _ _ _ Z⟩
theorem But.trans {b:Nat} {w Y w2:World} (h:But b w Y) (k:But b Y w2):But b w w2:=⟨k.os.trans h.os,k.tape.trans h.tape,k.output.trans h.output,k.size.trans h.size,fun j hj=>(k.block j hj).trans (h.block j hj)⟩
theorem But.setCells (b:Nat):∀ (vs:List Value) (o:Nat) (w:World),But b w (w.setCells b o vs)
 |[],_,w=>⟨rfl,rfl,rfl,rfl,fun _ _=>rfl⟩
 |v::vs,o,w=>(But.setCell w (J b o) v).trans (But.setCells b vs (o+1) (w.setCell (J b o) v))
section
variable {L:dE} {w E:World} {b:Nat} (hl:L b=some .tmp) (h:But b w E)
include hl h
theorem Fix.but {k:Nat} {o:Obj} (f:Fix L w k o):Fix L E k o:=⟨f.1,(h.block k (by rintro rfl;have f1:=f.1;rw[hl] at f1;cases f1)).trans f.2⟩
theorem dS.but {size:Nat} {v:Value} {xs:List Value} (f:dS L w size v xs):dS L E size v xs:=by
 obtain⟨ad,n,cap,rfl,e2,e3,e4,e5⟩:=f;refine⟨ad,n,cap,rfl,e2,e3,e4,?_⟩
 rcases e5 with h0|⟨g,off,rfl,e7,e8,e9⟩
 . exact .inl h0
 . refine .inr ⟨g,off,rfl,e7,by rw[h.size];exact e8,fun j hj=>?_⟩
   rw[World.cell?_of_block (w:=w) (a:=(J g (off+j))) (h.block g (by rintro rfl;rw[hl] at e7;cases e7))];exact e9 j hj
theorem kW.but {v:Value} {xs:List Value} (f:kW L w v xs):kW L E v xs:=by
 refine⟨f.1.but hl h,fun g off n cap hv=>?_⟩
 rcases f.2 g off n cap hv with h0|⟨cs,hc⟩
 . exact .inl h0
 . by_cases hn:n=0
   . exact .inl hn
   . obtain⟨ad,n',cap',e1,e2,e3,e4,e5⟩:=f.1
     obtain⟨rfl,rfl,rfl⟩:ad=za g off∧n'=n∧cap'=cap:=by rw[hv] at e1;simp at e1;exact⟨e1.1.symm,e1.2.1.symm,e1.2.2.symm⟩
     obtain⟨g',off',e6,e7,_⟩:=e5.resolve_left hn;obtain⟨rfl,rfl⟩:g=g'∧off=off':=by simpa using e6
     exact .inr ⟨cs,(h.block g (by rintro rfl;rw[hl] at e7;cases e7)).trans hc⟩
theorem rC.but:∀ {l:List Ev} {xs:List Value},rC L w l xs->rC L E l xs
 |[],_,f=>f
 |_::_,_,⟨vp,ys,h1,h2,h3⟩=>⟨vp,ys,h1,h2.but hl h,rC.but h3⟩
end
theorem aC.but {A:au} {D:St} {w E:World} {b:Nat} (hR:aC A D w) (hl:A.L b=some .tmp) (h:But b w E):aC A D E:=by
 refine⟨⟨fun r=>?_,fun k Z=>hR.mem.fresh k (by rw[<-h.size];exact Z)⟩,hR.ev.but hl h,hR.sl,hR.nw,hR.nt,hR.nv,hR.n8,hR.nc⟩
 by_cases hr:r=.tmp
 . subst hr;trivial
 . refine (hR.mem.all r).frame (fun k Z hk'=>h.block k ?_) (fun _ _=>rfl)
   rintro rfl;rw[hl] at hk';exact hr (zj hk').symm
theorem Grow.but {L L':dE} {w Y w2:World} {b:Nat} (g:Grow L w L' Y) (hb:w.heap.size<=b) (h:But b Y w2):Grow L w L' w2:=
 ⟨h.os.trans g.os,h.tape.trans g.tape,h.output.trans g.output,by rw[h.size];exact g.size,fun k Z hl=>(h.block k (by omega)).trans (g.block k Z hl),g.lab,fun k Z hl=>(h.block k (by omega)).trans (g.keep k Z hl)⟩
structure kE (L:dE) (w:World) (L':dE) (E:World):Prop where
 size:w.heap.size<=E.heap.size
 block:∀ b,b<w.heap.size->L b=none->E.heap[b]? =w.heap[b]?
 lab:∀ b,b<w.heap.size->L b=none->L' b=none
section
variable {p:KP} {L L':dE} {w E:World}
theorem Fix.soft {b:Nat} {o:Obj} (h:Fix L w b o) (g:kE L w L' E):Fix L' E b o:=⟨g.lab b (fA h.2) h.1,(g.block b (fA h.2) h.1).trans h.2⟩
theorem aN.soft {b:Nat} {v:Value} (h:aN L w b v) (g:kE L w L' E):aN L' E b v:=let ⟨T,h⟩:=h;⟨T,h.soft g⟩
theorem dS.soft {size:Nat} {v:Value} {xs:List Value} (h:dS L w size v xs) (g:kE L w L' E):dS L' E size v xs:=by
 obtain⟨a,n,cap,h1,h2,h3,h4,h5⟩:=h;refine⟨a,n,cap,h1,h2,h3,h4,?_⟩
 rcases h5 with h5|⟨b,off,e1,e2,e3,e4⟩
 . exact .inl h5
 . refine .inr ⟨b,off,e1,g.lab b e3 e2,sG e3 g.size,fun j hj=>?_⟩
   rw[World.cell?_of_block (w:=w) (a:=(J b (off+j))) (g.block b e3 e2)];exact e4 j hj
theorem jm.soft {e:Nat} {L L':dE} {w E:World} {v:Value} (g:kE L w L' E):∀ {k:Option S},jm e L w v k->jm e L' E v k
 |none,h=>h
 |some .now,h=>h
 |some (.live s),h=>let ⟨b0,b1,e,k0,k1⟩:=h;⟨b0,b1,e,k0.soft g,k1.soft g⟩
 |some (.head F),h=>let ⟨b0,b1,e,k0,k1⟩:=h;⟨b0,b1,e,k0.soft g,k1.soft g⟩
 |some (.visit F ak G),h=>let ⟨b0,b1,b2,b3,e,k0,k1,k2,k3⟩:=h;⟨b0,b1,b2,b3,e,k0.soft g,k1.soft g,k2.soft g,k3.soft g⟩
 |some (.maker F ak G id),h=>let ⟨b0,b1,b2,b3,b4,e,k0,k1,k2,k3,k4⟩:=h;⟨b0,b1,b2,b3,b4,e,k0.soft g,k1.soft g,k2.soft g,k3.soft g,k4.soft g⟩
 |some (.dD F ak G b),h=>let ⟨b0,b1,b2,b3,b4,e,k0,k1,k2,k3,k4⟩:=h;⟨b0,b1,b2,b3,b4,e,k0.soft g,k1.soft g,k2.soft g,k3.soft g,k4.soft g⟩
 |some (.on F G),h=>let ⟨b0,b1,b2,e,k0,k1,k2⟩:=h;⟨b0,b1,b2,e,k0.soft g,k1.soft g,k2.soft g⟩
 |some (.unlink F ak G),h=>let ⟨b0,b1,b2,b3,e,k0,k1,k2,k3⟩:=h;⟨b0,b1,b2,b3,e,k0.soft g,k1.soft g,k2.soft g,k3.soft g⟩
 |some (.cut F ak G nx),h=>let ⟨b0,b1,b2,b3,b4,e,k0,k1,k2,k3,k4⟩:=h;⟨b0,b1,b2,b3,b4,e,k0.soft g,k1.soft g,k2.soft g,k3.soft g,k4.soft g⟩
theorem vD.soft {A A':au} {D:St} {w E:World} (h:vD A D w) (e:A'.Hw=A.Hw) (g:kE A.L w A'.L E):vD A' D E:=
 ⟨by rw[Bc e,KG e];exact h.sw.soft g,h.cu.keep e⟩
theorem mq.soft {b:Nat} {r:oZ} (h:mq p L w b r) (g:kE L w L' E):mq p L' E b r:=let ⟨vp,T,h1,h2⟩:=h;⟨vp,T,h1.soft g,h2⟩
theorem lV.soft {b n:Nat} (h:lV L w b n) (g:kE L w L' E):lV L' E b n:=let ⟨T,h1⟩:=h;⟨T,h1.soft g⟩
theorem nP.soft {b n:Nat} (h:nP L w b n) (g:kE L w L' E):nP L' E b n:=let ⟨T,k,q,h1⟩:=h;⟨T,k,q,h1.soft g⟩
theorem jO.soft {b n:Nat} {x:Bool} (h:jO L w b x n) (g:kE L w L' E):jO L' E b x n:=let ⟨v,h1,h2⟩:=h;⟨v,h1.soft g,h2.soft g⟩
theorem nQ.soft {b:Nat} {l:List zy} (h:nQ L w b l) (g:kE L w L' E):nQ L' E b l:=let ⟨v,h1,h2⟩:=h;⟨v,h1.soft g,h2.soft g⟩
theorem nR.soft {b k:Nat} (h:nR p L w b k) (g:kE L w L' E):nR p L' E b k:=let ⟨v,h1,c0,c1,e,k0,k1⟩:=h;⟨v,h1.soft g,c0,c1,e,k0.soft g,k1.soft g⟩
theorem lM.soft {b l1 l2 l3:Nat} (h:lM p L w b l1 l2 l3) (g:kE L w L' E):lM p L' E b l1 l2 l3:=let ⟨v,h1,c0,c1,c2,c3,c4,c5,e,k0,k1,k2,k3,k4,k5⟩:=h;⟨v,h1.soft g,c0,c1,c2,c3,c4,c5,e,k0.soft g,k1.soft g,k2.soft g,k3.soft g,k4.soft g,k5.soft g⟩
theorem nS.soft {b l1 l2:Nat} (h:nS p L w b l1 l2) (g:kE L w L' E):nS p L' E b l1 l2:=let ⟨v,h1,c0,c1,c2,c3,c4,e,k0,k1,k2,k3,k4⟩:=h;⟨v,h1.soft g,c0,c1,c2,c3,c4,e,k0.soft g,k1.soft g,k2.soft g,k3.soft g,k4.soft g⟩
theorem kI.soft {v:Value} {F:Nat} {t:Qy} (h:kI p L w v F t) (g:kE L w L' E):kI p L' E v F t:=
 match t,h with
 |.get,hh=>let ⟨b0,b1,b2,b3,e,k0,k1,k2,k3⟩:=hh;⟨b0,b1,b2,b3,e,k0.soft g,k1.soft g,k2.soft g,k3.soft g⟩
 |.scan k,hh=>let ⟨b0,b1,b2,b3,b4,e,k0,k1,k2,k3,k4⟩:=hh;⟨b0,b1,b2,b3,b4,e,k0.soft g,k1.soft g,k2.soft g,k3.soft g,k4.soft g⟩
 |.change,hh=>let ⟨b0,b1,b2,b3,e,k0,k1,k2,k3⟩:=hh;⟨b0,b1,b2,b3,e,k0.soft g,k1.soft g,k2.soft g,k3.soft g⟩
 |.judge i l,hh=>let ⟨b0,b1,b2,b3,b4,e,k0,k1,k2,k3,k4⟩:=hh;⟨b0,b1,b2,b3,b4,e,k0.soft g,k1.soft g,k2.soft g,k3.soft g,k4.soft g⟩
theorem dK.soft {b:Nat} {h:dJ} (hh:dK p L w b h) (g:kE L w L' E):dK p L' E b h:=let ⟨v,T,h1,h2⟩:=hh;⟨v,T,h1.soft g,h2.soft g⟩
theorem gV.soft {b:Nat} {h:dJ} (hh:gV p L w b h) (g:kE L w L' E):gV p L' E b h:=let ⟨v,h1,h2⟩:=hh;⟨v,h1.soft g,h2.soft g⟩
theorem ny.soft {v:Value} {k:K} (h:ny p L w v k) (g:kE L w L' E):ny p L' E v k:=
 match k,h with
 |.start _,⟨bh,e,h1⟩=>⟨bh,e,h1.soft g⟩
 |.fin r,hh=>let ⟨b0,b1,b2,e,k0,k1,k2⟩:=hh;⟨b0,b1,b2,e,k0.soft g,k1.soft g,k2.soft g⟩
 |.visit h G,hh=>let ⟨b0,b1,e,k0,k1⟩:=hh;⟨b0,b1,e,k0.soft g,k1.soft g⟩
 |.older h G,hh=>let ⟨b0,b1,e,k0,k1⟩:=hh;⟨b0,b1,e,k0.soft g,k1.soft g⟩
 |.maker h G id,hh=>let ⟨b0,b1,b2,e,k0,k1,k2⟩:=hh;⟨b0,b1,b2,e,k0.soft g,k1.soft g,k2.soft g⟩
 |.ended h G mb,hh=>let ⟨b0,b1,b2,e,k0,k1,k2⟩:=hh;⟨b0,b1,b2,e,k0.soft g,k1.soft g,k2.soft g⟩
 |.gW h G mb id,hh=>let ⟨b0,b1,b2,b3,e,k0,k1,k2,k3⟩:=hh;⟨b0,b1,b2,b3,e,k0.soft g,k1.soft g,k2.soft g,k3.soft g⟩
 |.seen h G mb,hh=>let ⟨b0,b1,b2,e,k0,k1,k2⟩:=hh;⟨b0,b1,b2,e,k0.soft g,k1.soft g,k2.soft g⟩
 |.again aA,hh=>let ⟨b0,b1,b2,b3,e,k0,k1,k2,k3⟩:=hh;⟨b0,b1,b2,b3,e,k0.soft g,k1.soft g,k2.soft g,k3.soft g⟩
 |.own G,hh=>let ⟨b0,b1,b2,b3,e,k0,k1,k2,k3⟩:=hh;⟨b0,b1,b2,b3,e,k0.soft g,k1.soft g,k2.soft g,k3.soft g⟩
 |.ib G Y id,hh=>let ⟨b0,b1,b2,b3,b4,b5,e,k0,k1,k2,k3,k4,k5⟩:=hh;⟨b0,b1,b2,b3,b4,b5,e,k0.soft g,k1.soft g,k2.soft g,k3.soft g,k4.soft g,k5.soft g⟩
 |.claim G Y,hh=>let ⟨b0,b1,b2,b3,b4,e,k0,k1,k2,k3,k4⟩:=hh;⟨b0,b1,b2,b3,b4,e,k0.soft g,k1.soft g,k2.soft g,k3.soft g,k4.soft g⟩
 |.fresh G,hh=>let ⟨b0,b1,b2,b3,e,k0,k1,k2,k3⟩:=hh;⟨b0,b1,b2,b3,e,k0.soft g,k1.soft g,k2.soft g,k3.soft g⟩
 |.next G head at_,hh=>let ⟨b0,b1,b2,b3,b4,b5,e,k0,k1,k2,k3,k4,k5⟩:=hh;⟨b0,b1,b2,b3,b4,b5,e,k0.soft g,k1.soft g,k2.soft g,k3.soft g,k4.soft g,k5.soft g⟩
 |.free G head at_,hh=>let ⟨b0,b1,b2,b3,b4,b5,e,k0,k1,k2,k3,k4,k5⟩:=hh;⟨b0,b1,b2,b3,b4,b5,e,k0.soft g,k1.soft g,k2.soft g,k3.soft g,k4.soft g,k5.soft g⟩
 |.dM G head at_ id,hh=>let ⟨b0,b1,b2,b3,b4,b5,e,k0,k1,k2,k3,k4,k5⟩:=hh;⟨b0,b1,b2,b3,b4,b5,e,k0.soft g,k1.soft g,k2.soft g,k3.soft g,k4.soft g,k5.soft g⟩
 |.fB x G head,hh=>let ⟨b0,b1,b2,b3,b4,b5,e,k0,k1,k2,k3,k4,k5⟩:=hh;⟨b0,b1,b2,b3,b4,b5,e,k0.soft g,k1.soft g,k2.soft g,k3.soft g,k4.soft g,k5.soft g⟩
 |.dZ x G head,hh=>let ⟨b0,b1,b2,b3,b4,b5,e,k0,k1,k2,k3,k4,k5⟩:=hh;⟨b0,b1,b2,b3,b4,b5,e,k0.soft g,k1.soft g,k2.soft g,k3.soft g,k4.soft g,k5.soft g⟩
 |.push G head,hh=>let ⟨b0,b1,b2,b3,b4,e,k0,k1,k2,k3,k4⟩:=hh;⟨b0,b1,b2,b3,b4,e,k0.soft g,k1.soft g,k2.soft g,k3.soft g,k4.soft g⟩
 |.dL G head,hh=>let ⟨b0,b1,b2,b3,b4,e,k0,k1,k2,k3,k4⟩:=hh;⟨b0,b1,b2,b3,b4,e,k0.soft g,k1.soft g,k2.soft g,k3.soft g,k4.soft g⟩
 |.over G,hh=>let ⟨b0,b1,b2,b3,b4,e,k0,k1,k2,k3,k4⟩:=hh;⟨b0,b1,b2,b3,b4,e,k0.soft g,k1.soft g,k2.soft g,k3.soft g,k4.soft g⟩
 |.iq G head,hh=>let ⟨b0,b1,b2,b3,b4,b5,e,k0,k1,k2,k3,k4,k5⟩:=hh;⟨b0,b1,b2,b3,b4,b5,e,k0.soft g,k1.soft g,k2.soft g,k3.soft g,k4.soft g,k5.soft g⟩
 |.dQ G head,hh=>let ⟨b0,b1,b2,b3,b4,b5,e,k0,k1,k2,k3,k4,k5⟩:=hh;⟨b0,b1,b2,b3,b4,b5,e,k0.soft g,k1.soft g,k2.soft g,k3.soft g,k4.soft g,k5.soft g⟩
 |.draw,hh=>let ⟨b0,b1,b2,e,k0,k1,k2⟩:=hh;⟨b0,b1,b2,e,k0.soft g,k1.soft g,k2.soft g⟩
 |.ed Y now,hh=>let ⟨b0,b1,b2,e,k0,k1,k2⟩:=hh;⟨b0,b1,b2,e,k0.soft g,k1.soft g,k2.soft g⟩
 |.turn Y now,hh=>let ⟨b0,b1,b2,b3,b4,e,k0,k1,k2,k3,k4⟩:=hh;⟨b0,b1,b2,b3,b4,e,k0.soft g,k1.soft g,k2.soft g,k3.soft g,k4.soft g⟩
 |.dR,hh=>let ⟨b0,b1,b2,e,k0,k1,k2⟩:=hh;⟨b0,b1,b2,e,k0.soft g,k1.soft g,k2.soft g⟩
 |.wait i,hh=>let ⟨b0,b1,b2,b3,b4,e,k0,k1,k2,k3,k4⟩:=hh;⟨b0,b1,b2,b3,b4,e,k0.soft g,k1.soft g,k2.soft g,k3.soft g,k4.soft g⟩
 |.turns [] r,hh=>let ⟨b0,b1,b2,b3,e,k0,k1,k2,k3⟩:=hh;⟨b0,b1,b2,b3,e,k0.soft g,k1.soft g,k2.soft g,k3.soft g⟩
 |.turns (x::l) r,hh=>let ⟨b0,b1,b2,b3,b4,e,k0,k1,k2,k3,k4⟩:=hh;⟨b0,b1,b2,b3,b4,e,k0.soft g,k1.soft g,k2.soft g,k3.soft g,k4.soft g⟩
 |.cZ,hh=>let ⟨b0,b1,b2,e,k0,k1,k2⟩:=hh;⟨b0,b1,b2,e,k0.soft g,k1.soft g,k2.soft g⟩
 |.abort e aQ,hh=>let ⟨b0,b1,b2,b3,b4,e,k0,k1,k2,k3,k4⟩:=hh;⟨b0,b1,b2,b3,b4,e,k0.soft g,k1.soft g,k2.soft g,k3.soft g,k4.soft g⟩
end
theorem But.soft {L:dE} {w E:World} {b:Nat} (hl:L b=some .tmp) (h:But b w E):kE L w L E:=⟨by rw[h.size];exact zr _,fun k Z e=>h.block k (by rintro rfl;rw[hl] at e;cases e),fun _ _ e=>e⟩
theorem heap_setCell_same {w:World} {b:Nat} {cs:Array Value} {T:TypeId} (h:w.heap[b]? =some (.cells cs T)) (i:Nat) (v:Value):(w.setCell (J b i) v).heap[b]? =some (.cells (cs.setIfInBounds i v) T):=by
 simp only[World.setCell,Array.getElem?_modify,h];simp
theorem kJ {w:World} {b:Nat} {a0 a1 a2 a3 a4 a5:Value} {T:TypeId} (h:w.heap[b]? =some (.cells #[a0,a1,a2,a3,a4,a5] T)) (v0 v1 v2 v3 v4 v5:Value):(w.setCells b 0 [v0,v1,v2,v3,v4,v5]).heap[b]? =some (.cells #[v0,v1,v2,v3,v4,v5] T):=by
 have h1:=heap_setCell_same h 0 v0;have h2:=heap_setCell_same h1 1 v1;have h3:=heap_setCell_same h2 2 v2;have h4:=heap_setCell_same h3 3 v3;have h5:=heap_setCell_same h4 4 v4;have h6:=heap_setCell_same h5 5 v5;exact h6
theorem wW {w:World} {b:Nat} {a0 a1 a2 a3 a4:Value} {T:TypeId} (h:w.heap[b]? =some (.cells #[a0,a1,a2,a3,a4] T)) (v0 v1 v2 v3 v4:Value):(w.setCells b 0 [v0,v1,v2,v3,v4]).heap[b]? =some (.cells #[v0,v1,v2,v3,v4] T):=by
 have h1:=heap_setCell_same h 0 v0;have h2:=heap_setCell_same h1 1 v1;have h3:=heap_setCell_same h2 2 v2;have h4:=heap_setCell_same h3 3 v3;have h5:=heap_setCell_same h4 4 v4;exact h5
theorem gM {w:World} {b:Nat} {cs:Array Value} {T:TypeId} (h:w.heap[b]? =some (.cells cs T)):w.there b 0 cs.size:=by
 intro j hj;rw[Nat.zero_add];refine⟨?_,by simp[World.frozen?,h]⟩;rw[cell_of_row w b j _ _ _ h];simp[hj]
variable {A:au} {D:St} {w:World}
theorem kI.enter {p:KP} {L:dE} {w:World} {v:Value} {F:Nat} {t:Qy} (h:kI p L w v F t):∃ f c,v=.func (.func f) #[] c∧∀ args w,(callFunc f args).run Tryz.prog w=.ok (.enter f args) w:=by
 cases t
 . obtain⟨b0,b1,b2,b3,e,_⟩:=h;exact⟨_,_,e,fun args w=>by kernel_rfl⟩
 . obtain⟨b0,b1,b2,b3,b4,e,_⟩:=h;exact⟨_,_,e,fun args w=>by kernel_rfl⟩
 . obtain⟨b0,b1,b2,b3,e,_⟩:=h;exact⟨_,_,e,fun args w=>by kernel_rfl⟩
 . obtain⟨b0,b1,b2,b3,b4,e,_⟩:=h;exact⟨_,_,e,fun args w=>by kernel_rfl⟩
def KW (A:au) (w:World) (D:St) (s:Nat) (hu:dJ) (G:Nat):Prop:=∀ Y f c,aC A D Y->Grow A.L w A.L Y->kI (kp A D s) A.L Y (.func (.func f) #[] c) hu.F hu.thn->zk f (#[zu G]++c) Y (bE A Y s (D.thn s hu G))
theorem zN (hR:aC A D w) (s:Nat) (bh:Nat) (hu:dJ) (hh:dK (kp A D s) A.L w bh hu) (G:Nat) (HT:G=0->KW A w D s hu 0):
 zk 162 #[R bh 0,zu G] w (bE A w s (D.visit s hu G)):=by
 obtain⟨r1,g1,f0,f1⟩:=jy hR #[R bh 0] 246 #[zu G] 25;have c0:=f0.cell 0 (v:=R bh 0) rfl;have c1:=f1.cell 0 (v:=zu G) rfl;have tF:=hh.grow g1
 by_cases h0:G=0
 . have e0:D.visit s hu G=D.thn s hu 0:=by unfold St.visit;rw[aV h0]
   rw[e0];obtain⟨vt,TT,fh,hth⟩:=tF;obtain⟨fv,cv,rfl,hent⟩:=hth.enter;have d1:((G:Int)==0)=true:=by simpa using h0
   have d3:((G:Int)=0)=True:=by simpa using h0
   have h4:=fh.cell 4 (v:=.func (.func fv) #[] cv) rfl;have hf:=HT h0 _ fv cv r1 g1 hth;have HF:=zH (zA hf g1);clear hR hh r1 g1 f0 f1 fh hth hf HT h0 e0;go_enter Tryz.func162,Tryz.ntmps162;go_wp2_with fail;refine HF.out.1.mono ?_;rintro e w3 ⟨A',v,rfl,q1,q2,q3,q4⟩;go_wp2_with fail;go_ret;exact⟨A',v,rfl,q1,HF.out.2.trans q2,q3,q4⟩
 . have e0:D.visit s hu G=(D,.visit hu G):=by unfold St.visit;rw[aR h0]
   rw[e0];have d1:((G:Int)==0)=false:=by simpa using h0
   have d3:((G:Int)=0)=False:=by simpa using h0
   have HQ:=zH (zA r1 (zA g1 (zA f0 (zA f1 tF))));clear hR hh r1 g1 f0 f1 tF HT h0 e0;go_enter Tryz.func162,Tryz.ntmps162;go_wp2_with fail;go_ret;obtain⟨r1,g1,f0,f1,tF⟩:=HQ.out;exact⟨A,_,rfl,r1,g1,bT.refl _ _,_,_,rfl,⟨_,f0.box,tF⟩,f1.box⟩
theorem NZ (hR:aC A D w) (s:Nat) (hu:dJ) (bh:Nat) (hh:dK (kp A D s) A.L w bh hu) (Z:hu.F<64) (aL:D.count<4000000000000000000) (HT:D.word (9+hu.F)=0->∀ Y,aC A D.tick Y->Grow A.L w A.L Y->KW A Y D.tick s hu 0):
 zk 142 #[R bh 0] w (kY A w s (D.run s (.start hu))):=by
 have hh0:=hh;obtain⟨vt,TT,fh,hth⟩:=hh;have h0:=fh.cell 0 (v:=R A.H 0) rfl;have h2:=fh.cell 2 (v:=I hu.F) rfl;have e2:=hR.z2;have n1:IntKind.i64.wrap (9+(hu.F:Int))=9+(hu.F:Int):=by rw[jG];omega
 have HL:=zH (iK hR.drew (9+hu.F) (9+(hu.F:Int)) (by omega) (by rw[hR.nw];omega) aL);have HG:=zG A.L w;have HK:Hid (∀ E,Kp A w E->zS E bh 0 A.H 0∧zT E bh 2 hu.F∧zS E A.H 2 A.ba 0):=fun E k=>⟨k.fix _ _ _ fh.1 h0,k.fix _ _ _ fh.1 h2,k.ea⟩
 have HB:Hid (∀ Y,aC A D.tick Y->Grow A.L w A.L Y->zk 162 #[R bh 0,zu (D.word (9+hu.F):Int)] Y (bE A Y s (D.tick.visit s hu (D.word (9+hu.F))))):=
  fun Y r g=>zN r s bh hu (hh0.grow g) _ fun hz=>HT hz Y r g
 have aX:D.run s (.start hu)=((D.tick.visit s hu (D.word (9+hu.F))).1,some (D.tick.visit s hu (D.word (9+hu.F))).2):=rfl;rw[aX];clear hR hh0 fh hth Z aL HT aX;generalize D.tick.visit s hu (D.word (9+hu.F))=res at*;generalize D.word (9+hu.F)=hd at*;generalize hu.F=F at*;go_enter Tryz.func142,Tryz.ntmps142;go_wp2_with fail
 go_region_held3 (fun E=>zS E bh 0 A.H 0∧zT E bh 2 F∧zS E A.H 2 A.ba 0)
  (first|exact⟨h0,h2,e2⟩|assumption|exact HK.out _ (Kp.of (by assumption) (by assumption) (by assumption)))
  (first|(go_at_call 42;refine HL.out.mono ?_;rintro e Y ⟨rfl,q1,q2⟩;have q4:=HG.out.trans q2;have q3:=bT.refl A s;clear q2)|(go_at_call 162;refine (HB.out _ (by assumption) (by assumption)).mono ?_;rintro e w2 ⟨A',v,rfl,p1,p2,p3,p4⟩;have p5:=(‹Grow A.L w A.L _›).trans p2))
 go_wp2_with fail;go_ret;exact⟨A',_,rfl,p1,p5,p3,p4⟩
def VM (A:au) (w:World) (bB:St):Ending->World->Prop:=fun e E=>(∃ z:Int,e=.returned (I z))∧∃ A',oJ A A'∧aC A' bB E∧Grow A.L w A'.L E
theorem KX {D:St} {G:Nat} (h:D.kF G=false):D.give G=D:=by unfold St.give;rw[h];rfl
theorem Jc {D:St} {G:Nat} (h:D.kF G=true) (ht:(D.tags.getD (ag G) (0,false)).1=65535):D.give G={D with tags:=D.tags.set (ag G) ((D.tags.getD (ag G) (0,false)).1,false),ja:=D.ja+1}:=by
 unfold St.give;rw[h];simp only[aV,ht]
theorem N7 {D:St} {G:Nat} (h:D.kF G=true) (ht:(D.tags.getD (ag G) (0,false)).1≠65535):D.give G={D with tags:=D.tags.set (ag G) ((D.tags.getD (ag G) (0,false)).1+1,false),free:=D.free++[ag G]}:=by
 unfold St.give;rw[h];simp only[aV,aR ht]
theorem C9 (hR:aC A D w) (G:Nat) (hv:VL D G) (hp:iR D):
 zk 100 #[R A.bp 0,zu G] w (VM A w (D.give G)):=by
 have hi:=iY hv;have hlv:=KV hR G hv hp.tag
 cases hlive:D.kF G with
 |false=>
  rw[KX hlive];rw[hlive] at hlv;have HL:=zH hlv;have HR:=zH hR;clear hlv hR hv hp hi hlive;go_enter Tryz.func100,Tryz.ntmps100;go_wp2_with (go_at_call 134;refine HL.out.mono ?_;rintro e E ⟨rfl,rfl⟩);go_ret;exact⟨⟨_,rfl⟩,A,⟨_,_,rfl⟩,HR.out,Grow.refl _ _⟩
 |true=>
  rw[hlive] at hlv;have hu:=Word.pz (G:Int) (by omega) (by have:=hv.u;omega) w;rw[<-qw hv.lo] at hu;have p0:w.cell? (J A.bp 0)=some (.slice (some (J A.bs 0)) D.aF D.aF):=hR.bO 0 rfl;have b0:(0:Int)<=(ag G:Int):=by omega
  have b1:(ag G:Int)<(D.aF:Int):=by omega
  have t1:=(hR.tag hi).2;have z1:=hR.QE (2*ag G+1);rw[Nat.mul_comm 2] at t1 z1;obtain⟨r1,g1⟩:=hR.CE hi false;rw[Nat.mul_comm 2] at r1 g1;have i0:=(r1.tag (i:=ag G) hi).1;rw[Nat.mul_comm 2] at i0;have hsl:=hR.sl;have KY:((D.tags.set (ag G) ((D.tags.getD (ag G) (0,false)).1,false)).getD (ag G) (0,false))=((D.tags.getD (ag G) (0,false)).1,false):=by
   rw[kH _ _ _ _ _ (by rw[hR.nt];exact hi),aV rfl]
  rw[KY] at i0;have q1:=r1.bO 1 (v:=I 65535) rfl;have q3:=r1.bO 3 (v:=I (D.ja:Int)) rfl;have z3:=r1.wQ 3
  by_cases KR:(D.tags.getD (ag G) (0,false)).1=65535
  . rw[Jc hlive KR]
    rw[KR] at i0;have Jd:IntKind.i64.wrap ((D.ja:Int)+1)=(D.ja:Int)+1:=by have:=hp.ja;rw[jG];omega
    have HU:=zH hu;have HL:=zH hlv;have HR:=zH (zA r1 g1);clear hu hlv hR hv hp hi hlive r1 g1 hsl KY KR;go_enter Tryz.func100,Tryz.ntmps100;go_wp2_with (first|(go_at_call 134;refine HL.out.mono ?_;rintro e E ⟨rfl,rfl⟩)|(go_at_call 107;refine HU.out.mono ?_;rintro e E ⟨rfl,rfl⟩));generalize hw1:w.setCell ⟨A.bs,ag G*2+1,none⟩ (.bool false)=Y at*
    go_quiet (fail)
    generalize hw2:Y.drewN _=w2;obtain⟨r1,g1⟩:=HR.out;have r2:aC A {D with tags:=D.tags.set (ag G) ((D.tags.getD (ag G) (0,false)).1,false)} w2:=by rw[<-hw2];exact r1.drewN _
    have g2:Grow A.L w A.L w2:=by rw[<-hw2];exact g1.trans (Grow.drewN _ _ _)
    have q3:=r2.bO 3 (v:=I (D.ja:Int)) rfl;have z3:=r2.wQ 3;obtain⟨r3,g3⟩:=r2.NH (D.ja+1);rw[show ((D.ja+1:Nat):Int)=(D.ja:Int)+1 from rfl] at r3 g3;have HQ:=zH (zA r3 (g2.trans g3));clear r1 g1 r2 g2 r3 g3 hw2;go_wp2_with fail;go_ret;exact⟨⟨_,rfl⟩,A,⟨_,_,rfl⟩,HQ.out.1,HQ.out.2⟩
  . rw[N7 hlive KR]
    have htl:=hp.tag _ hi;have hfl:=hp.n;have el:(D.tags.set (ag G) ((D.tags.getD (ag G) (0,false)).1,false)).set (ag G) ((D.tags.getD (ag G) (0,false)).1+1,((D.tags.set (ag G) ((D.tags.getD (ag G) (0,false)).1,false)).getD (ag G) (0,false)).2)=D.tags.set (ag G) ((D.tags.getD (ag G) (0,false)).1+1,false):=by rw[KY,List.set_set]
    have NEXT : Hid (∀ w2, aC A { D with tags := D.tags.set (ag G) ((D.tags.getD (ag G) (0, false)).1, false) } w2 -> w2.cell? ⟨A.bs, ag G * 2, none⟩ = some (I ((D.tags.getD (ag G) (0, false)).1 : Int)) ∧ w2.frozen? ⟨A.bs, ag G * 2, none⟩ = false ∧
        aC A {D with tags:=D.tags.set (ag G) ((D.tags.getD (ag G) (0,false)).1+1,false)} (w2.setCell ⟨A.bs,ag G*2,none⟩ (I (((D.tags.getD (ag G) (0,false)).1:Int)+1)))∧Grow A.L w2 A.L (w2.setCell ⟨A.bs,ag G*2,none⟩ (I (((D.tags.getD (ag G) (0,false)).1:Int)+1)))):=by
     rw[Nat.mul_comm (ag G) 2];intro w2 r2;have a1:=(r2.tag (i:=ag G) hi).1;rw[show (({D with tags:=D.tags.set (ag G) ((D.tags.getD (ag G) (0,false)).1,false)}:St).tags.getD (ag G) (0,false))=_ from KY] at a1;obtain⟨r3,g3⟩:=r2.QF hi ((D.tags.getD (ag G) (0,false)).1+1);refine⟨a1,r2.QE _,?_,g3⟩;have r3':=r3;rw[show ({({D with tags:=D.tags.set (ag G) ((D.tags.getD (ag G) (0,false)).1,false)}:St) with tags:=({D with tags:=D.tags.set (ag G) ((D.tags.getD (ag G) (0,false)).1,false)}:St).tags.set (ag G) ((D.tags.getD (ag G) (0,false)).1+1,(({D with tags:=D.tags.set (ag G) ((D.tags.getD (ag G) (0,false)).1,false)}:St).tags.getD (ag G) (0,false)).2)}:St)={D with tags:=D.tags.set (ag G) ((D.tags.getD (ag G) (0,false)).1+1,false)} by simp only[el]] at r3';exact r3'
    clear el KY;generalize (D.tags.getD (ag G) (0,false)).1=tg at*;have d1:((tg:Int)==65535)=false:=by simp;omega
    have d2:((tg:Int)=65535)=False:=by simp;omega
    have d3:IntKind.i64.wrap ((tg:Int)+1)=(tg:Int)+1:=by rw[jG];omega
    have HU:=zH hu;have HL:=zH hlv;have HR:=zH (zA r1 g1);have HN:=zH hfl;clear hu hlv hR hv hp hi hlive r1 g1 hsl KR htl hfl;go_enter Tryz.func100,Tryz.ntmps100;go_wp2_with (first|(go_at_call 134;refine HL.out.mono ?_;rintro e E ⟨rfl,rfl⟩)|(go_at_call 107;refine HU.out.mono ?_;rintro e E ⟨rfl,rfl⟩));generalize hw1:w.setCell ⟨A.bs,ag G*2+1,none⟩ (.bool false)=Y at*
    go_quiet (fail)
    generalize hw2:Y.drewN _=w2;obtain⟨r1,g1⟩:=HR.out;have r2:aC A {D with tags:=D.tags.set (ag G) (tg,false)} w2:=by rw[<-hw2];exact r1.drewN _
    have g2:Grow A.L w A.L w2:=by rw[<-hw2];exact g1.trans (Grow.drewN _ _ _)
    obtain⟨a1,a2,r3,g3⟩:=NEXT.out w2 r2;have g4:=g2.trans g3;obtain⟨av,jc,hv,hstep⟩:=zK r3 (ag G);obtain⟨r5,g5,_⟩:=dA r3 #[I (ag G)] 3;have p2:=r3.bO 2 (v:=A.eZ) rfl;have aU:=oK r5;rw[hv] at p2 aU;have HS:=zH hstep;have HV:=zH hv;have HO:=zH aU;have HQ:=zH g4;clear r1 g1 r2 g2 r3 g3 g4 hw2 hv aU hstep r5 g5;obtain⟨ii,hii,hz0,hz1,hz2⟩:=info_parts CQ;have hsz:∀ a u,(w2.setCell a u).heap.size=w2.heap.size:=fun a u=>by simp[World.setCell]
    have HZ:=zH hsz;clear hsz;go_wp2_with (refine Ow.eu _ rfl (.tmp 55) (.tmp 57) 36 rfl 0 _ ii _ 1 8 Tryz.underlying36 hii hz0 hz1 hz2 rfl (by decide) (.slice av D.free.length jc) D.free.length (D.free.map i64) rfl HO.out (J w2.heap.size 0) 1 1 (by omega) [I (ag G)] rfl rfl (by intro j' u hu;rw[<-HZ.out ⟨A.bs,ag G*2,none⟩ (I ((tg:Int)+1))];exact Ow.iw _ [I (ag G)] _ _ rfl j' u hu) (by intro u hu;obtain rfl:=List.mem_singleton.1 hu;rfl) (by have:=HN.out;unfold maxLen;omega) (by have:=HN.out;omega) (zz _) ?_;intro v' w4 q1 q2 q3;obtain⟨k1,k2,k3,_⟩:=HS.out v' w4 q1 (by rw[HV.out];exact q2) (by rw[HV.out];exact q3);obtain⟨a4,cap4,rfl,_⟩:=Ow.bN q1;have K1:=zH k1;clear k1 q1 q2 q3);go_ret;obtain⟨A2,h1,h2,h3⟩:=K1.out;exact⟨⟨_,rfl⟩,A2,h1,h2,HQ.out.trans h3⟩
theorem Da (hR:aC A D w) (s:Nat) (G:Nat) (hv0:G=0∨VL D G) (hp:iR D):
 zk 174 #[R A.H 0,R (A.bt s) 0,R (A.bc s) 0,zu G] w (bE A w s (D.lost G)):=by
 by_cases h0:G=0
 . have e:D.lost G=(D,.abort 14 2):=by unfold St.lost;rw[aR (by simpa using h0)]
   rw[e];have d1:((G:Int) !=0)=false:=by simpa using h0
   have d2:((G:Int)=0)=True:=by simpa using h0
   have d3:((G:Int)==0)=true:=by simpa using h0
   have HA:=zH (jC hR s 14 2);clear hR hv0 hp h0 e;go_enter Tryz.func174,Tryz.ntmps174;go_wp2_with (go_at_call 97;refine HA.out.mono ?_;rintro e w2 ⟨A2,v,rfl,p1,p2,p3,p4⟩);go_ret;exact⟨A2,v,rfl,p1,p2,p3,p4⟩
 . have hv:=hv0.resolve_left h0
   have e:D.lost G=(D.give G,.abort 14 2):=by unfold St.lost;rw[aV (by simpa using h0)]
   rw[e];have d1:((G:Int) !=0)=true:=by simpa using h0
   have d2:((G:Int)=0)=False:=by simpa using h0
   have d3:((G:Int)==0)=false:=by simpa using h0
   have e3:=hR.df 3 (v:=R A.bp 0) rfl;have HG:=zH (C9 hR G hv hp);clear hR hv0 hv hp h0 e;generalize D.give G=aH at*;go_enter Tryz.func174,Tryz.ntmps174;go_wp2_with (first|(go_at_call 100;refine HG.out.mono ?_;rintro e Y ⟨⟨z,rfl⟩,A1,⟨L1,v1,rfl⟩,q1,q2⟩;have HA:=zH (jC q1 s 14 2);have HQ:=zH q2;clear q1 q2)|(go_at_call 97;refine HA.out.mono ?_;rintro e w2 ⟨A2,v,rfl,p1,p2,p3,p4⟩));go_ret;have hst:bT A {A with L:=L1,eZ:=v1} s:=⟨rfl,rfl,rfl,rfl,rfl,rfl,rfl,rfl,rfl,rfl,rfl,fun _ _=>rfl,fun _ _=>rfl⟩
   exact⟨A2,v,rfl,p1,HQ.out.trans p2,hst.trans p3,p4⟩
theorem fu (h:aC A D w) (id:Nat) (hid:id<=65535):
 zk 48 #[R A.H 0,I id] w fun e E=>e=.returned (I ((D.place id:Nat):Int))∧E=w:=flip (zD h id hid)
theorem Je (hR:aC A D w) (s:Nat) (t:bL) (ht:D.aj.getD s none=some t) (G head at_ id:Nat) (hv0:G=0∨VL D G) (hid:id<=65535) (hpl:D.place id<D.words.length) (hw:D.word (D.place id)<18446744073709551616) (hp:iR D) (aL:D.count<4000000000000000000)
 (b0 b1 b2 b3 b4 b5:Nat) (B0:aN A.L w b0 (R A.H 0)) (B1:lV A.L w b1 id) (B2:aN A.L w b2 (R (A.bt s) 0)) (B3:lM (kp A D s) A.L w b3 G head at_) (B4:aN A.L w b4 (R (A.bc s) 0)) (B5:aN A.L w b5 (zu G)):
 zk 175 #[R b0 0,R b1 0,R b2 0,R b3 0,R b4 0,R b5 0] w (kY A w s (D.run s (.dM G head at_ id))):=by
 obtain⟨_,S1⟩:=B1;obtain⟨nv,X3,m0,m1,m2,m3,m4,m5,VN,N0,N1,N2,N3,N4,N5⟩:=B3;have c0:=B0.cell;have c1:=S1.cell 1 (v:=zu id) rfl;have e2:=hR.z2;have HP:=zH (fu hR.drew id hid);have HL:=zH (iJ hR.drew (D.place id) hpl aL);have HU:=zH (fun E=>jl (D.word (D.place id)) hw E);have n1:IntKind.i64.wrap (id:Int)=(id:Int):=by rw[jG];omega
 have HG:=zG A.L w;have HK:Hid (∀ E,Kp A w E->zS E b0 0 A.H 0∧zV E b1 1 id∧zS E A.H 2 A.ba 0):=by
  obtain⟨_,x0⟩:=B0;exact fun E k=>⟨k.fix _ _ _ x0.1 c0,k.fix _ _ _ S1.1 c1,k.ea⟩
 have HB : Hid (∀ Y, aC A D.tick Y -> Grow A.L w A.L Y -> zS Y b0 0 A.H 0 ∧ zS Y b2 0 (A.bt s) 0 ∧ Y.cell? (J b3 0) = some nv ∧ zS Y b4 0 (A.bc s) 0 ∧ zV Y b5 0 (G : Int) ∧ zV Y (A.bt s) 3 (t.aJ : Int) ∧
     (∀ Y,aC A D.tick Y->zk 174 #[R A.H 0,R (A.bt s) 0,R (A.bc s) 0,zu G] Y (bE A Y s (D.tick.lost G)))):=by
  intro Y q1 q2;have g:=q2;exact⟨(B0.grow g).cell,(B2.grow g).cell,(X3.grow g).cell,(B4.grow g).cell,(B5.grow g).cell,q1.fw ht 3 rfl,fun w3 q3=>Da q3 s G (hv0.imp (fun h=>h) fun h=>⟨h.lo,h.hi,h.u⟩) ⟨hp.n,hp.free,hp.tag,hp.ja⟩⟩
 have HN:=zH (zA N0 (zA N1 (zA N2 (zA N3 (zA N4 N5)))));have aX:D.run s (.dM G head at_ id)=if bz (D.word (D.place id))=4∨(0<gX (D.word (D.place id))∧gX (D.word (D.place id))<=t.aJ) then (D.tick,some (.next G head at_)) else ((D.tick.lost G).1,some (D.tick.lost G).2):=by
  have e:(D.tick.t s)=t:=cK ht;simp only[St.run,e]
 rw[aX];clear hR ht hv0 hid hpl hw hp aL B0 S1 B2 X3 B4 B5 N0 N1 N2 N3 N4 N5 aX;subst VN;generalize D.word (D.place id)=x at*;generalize hst:bz x=st at*;generalize hen:gX x=en at*;generalize t.aJ=bg at*;clear hst hen
 by_cases h4:st=4
 . rw[aV (Or.inl h4)]
   subst h4;go_enter Tryz.func175,Tryz.ntmps175;go_wp2_with fail
   go_region_held3 (fun E=>zS E b0 0 A.H 0∧zV E b1 1 id∧zS E A.H 2 A.ba 0)
    (first|exact⟨c0,c1,e2⟩|assumption|exact HK.out _ (Kp.of (by assumption) (by assumption) (by assumption)))
    (first|(go_at_call 48;refine HP.out.mono ?_;rintro e E ⟨rfl,rfl⟩)|(go_at_call 42;refine HL.out.mono ?_;rintro e Y ⟨rfl,q1,q2⟩;have q4:=HG.out.trans q2;have q3:=bT.refl A s;clear q2)|(go_at_call 109;refine (HU.out _).mono ?_;rintro e E ⟨rfl,rfl⟩))
   obtain⟨d0,d2,d3,d4,d5,d6,Z⟩:=HB.out _ (by assumption) (by assumption);have HQ:=zH (zA (‹aC A D.tick _›) (zA (‹Grow A.L w A.L _›) Z));clear Z;go_wp2_with fail;go_ret;obtain⟨q1,g1,_⟩:=HQ.out;exact⟨A,_,rfl,q1,g1,bT.refl _ _,_,_,_,_,_,_,rfl,(HN.out.1).grow g1,(HN.out.2.1).grow g1,(HN.out.2.2.1).grow g1,(HN.out.2.2.2.1).grow g1,(HN.out.2.2.2.2.1).grow g1,(HN.out.2.2.2.2.2).grow g1⟩
 . have a1:((st:Int)==4)=false:=by simp;omega
   have a2:((st:Int)=4)=False:=by simp;omega
   by_cases h0:en=0
   . rw[aR (by omega)]
     have a3:decide ((0:Int)<(en:Int))=false:=by simp;omega
     have a4:((0:Int)<(en:Int))=False:=by simp;omega
     have YQ:(0<en)=False:=by simp;omega
     clear h4 h0;go_enter Tryz.func175,Tryz.ntmps175;go_wp2_with fail
     go_region_held3 (fun E=>zS E b0 0 A.H 0∧zV E b1 1 id∧zS E A.H 2 A.ba 0)
      (first|exact⟨c0,c1,e2⟩|assumption|exact HK.out _ (Kp.of (by assumption) (by assumption) (by assumption)))
      (first|(go_at_call 48;refine HP.out.mono ?_;rintro e E ⟨rfl,rfl⟩)|(go_at_call 42;refine HL.out.mono ?_;rintro e Y ⟨rfl,q1,q2⟩;have q4:=HG.out.trans q2;have q3:=bT.refl A s;clear q2)|(go_at_call 109;refine (HU.out _).mono ?_;rintro e E ⟨rfl,rfl⟩))
     obtain⟨d0,d2,d3,d4,d5,d6,Z⟩:=HB.out _ (by assumption) (by assumption);have HQ:=zH (zA (‹aC A D.tick _›) (zA (‹Grow A.L w A.L _›) Z));clear Z;go_wp2_with (go_at_call 174;refine (HQ.out.2.2 _ HQ.out.1).mono ?_;rintro e w2 ⟨A2,v,rfl,p1,p2,p3,p4⟩);go_ret;exact⟨A2,v,rfl,p1,HQ.out.2.1.trans p2,p3,p4⟩
   . have a3:decide ((0:Int)<(en:Int))=true:=by simp;omega
     have a4:((0:Int)<(en:Int))=True:=by simp;omega
     have YQ:(0<en)=True:=by simp;omega
     by_cases hb:en<=bg
     . rw[aV (by omega)]
       have a5:decide ((en:Int)<=(bg:Int))=true:=by simp;omega
       have a6:((en:Int)<=(bg:Int))=True:=by simp;omega
       have YR:(en<=bg)=True:=by simp;omega
       clear h4 h0 hb;go_enter Tryz.func175,Tryz.ntmps175;go_wp2_with fail
       go_region_held3 (fun E=>zS E b0 0 A.H 0∧zV E b1 1 id∧zS E A.H 2 A.ba 0)
        (first|exact⟨c0,c1,e2⟩|assumption|exact HK.out _ (Kp.of (by assumption) (by assumption) (by assumption)))
        (first|(go_at_call 48;refine HP.out.mono ?_;rintro e E ⟨rfl,rfl⟩)|(go_at_call 42;refine HL.out.mono ?_;rintro e Y ⟨rfl,q1,q2⟩;have q4:=HG.out.trans q2;have q3:=bT.refl A s;clear q2)|(go_at_call 109;refine (HU.out _).mono ?_;rintro e E ⟨rfl,rfl⟩))
       obtain⟨d0,d2,d3,d4,d5,d6,Z⟩:=HB.out _ (by assumption) (by assumption);have HQ:=zH (zA (‹aC A D.tick _›) (zA (‹Grow A.L w A.L _›) Z));clear Z;go_wp2_with fail;go_ret;obtain⟨q1,g1,_⟩:=HQ.out;exact⟨A,_,rfl,q1,g1,bT.refl _ _,_,_,_,_,_,_,rfl,(HN.out.1).grow g1,(HN.out.2.1).grow g1,(HN.out.2.2.1).grow g1,(HN.out.2.2.2.1).grow g1,(HN.out.2.2.2.2.1).grow g1,(HN.out.2.2.2.2.2).grow g1⟩
     . rw[aR (by omega)]
       have a5:decide ((en:Int)<=(bg:Int))=false:=by simp;omega
       have a6:((en:Int)<=(bg:Int))=False:=by simp;omega
       have YR:(en<=bg)=False:=by simp;omega
       clear h4 h0 hb;go_enter Tryz.func175,Tryz.ntmps175;go_wp2_with fail
       go_region_held3 (fun E=>zS E b0 0 A.H 0∧zV E b1 1 id∧zS E A.H 2 A.ba 0)
        (first|exact⟨c0,c1,e2⟩|assumption|exact HK.out _ (Kp.of (by assumption) (by assumption) (by assumption)))
        (first|(go_at_call 48;refine HP.out.mono ?_;rintro e E ⟨rfl,rfl⟩)|(go_at_call 42;refine HL.out.mono ?_;rintro e Y ⟨rfl,q1,q2⟩;have q4:=HG.out.trans q2;have q3:=bT.refl A s;clear q2)|(go_at_call 109;refine (HU.out _).mono ?_;rintro e E ⟨rfl,rfl⟩))
       obtain⟨d0,d2,d3,d4,d5,d6,Z⟩:=HB.out _ (by assumption) (by assumption);have HQ:=zH (zA (‹aC A D.tick _›) (zA (‹Grow A.L w A.L _›) Z));clear Z;go_wp2_with (go_at_call 174;refine (HQ.out.2.2 _ HQ.out.1).mono ?_;rintro e w2 ⟨A2,v,rfl,p1,p2,p3,p4⟩);go_ret;exact⟨A2,v,rfl,p1,HQ.out.2.1.trans p2,p3,p4⟩
end Go.Proofs.YthicolbbmjfkfaaGreat.Em
namespace Go.Proofs.YthicolbbmjfkfaaGreat.Em
open Go.ChangeMaps Go.ChangeShapes Go.WideShapes Go.ChangeAt Go.RowKit En
theorem Fv {A:au} {w:World} {s:Nat} {t:bL} (hb:w.heap[A.bm s]? =some (.map (gY A s t).toArray t.cells.length)) (F b:Nat) (hx:t.cell F=none):
 (Instr.mapUpdate 116 (.map (some (A.bm s))) (I F) (ptr b)).run Tryz.prog w=.ok () (setBlock w (A.bm s) (.map (gY A s t++[(⟨i64 F,ptr b,t.cells.length⟩:MapEntry)]).toArray (t.cells.length+1))):=by
 have hck:∀ e,(Instr.checkKey e 10000 3 (I F)).run Tryz.prog w=.ok () w:=by
  intro e;unfold Instr.checkKey;simp[run_underlying Tryz.underlying3]
 rw[zJ] at hb ⊢
 rcases qy (A.bx s) F (t.cells.reverse.zipIdx.map fun p=>(p.1.1,p.2)) 0 with ⟨h1,h2⟩|⟨j,h1,h2⟩
 . clear h2 hx
   generalize (t.cells.reverse.zipIdx.map fun p=>(p.1.1,p.2)).map (NQ (A.bx s))=es at*;simp[Instr.mapUpdate,run_underlying Tryz.underlying116,run_underlying Tryz.underlying3,MapKept.run_getObj_map hb,hck,Instr.findKey,h1,MapKept.run_setObj_map _ hb,Result.andThen,setBlock]
 . have h3:=(uF t F).1 h2
   rw[hx] at h3
   cases h3
theorem yV {P:Program} {w E:World} {ops:Array Oper} {rest:List Oper} {o:Oper} {a:Act} {Q:Exit->Act->World->Prop}
 (hg:o.guard=none) (m x v:Operand) (t:TypeId) (hop:o.op=Op.mapUpdate t m x v) (aX:(Instr.mapUpdate t (a.eval m) (a.eval x) (a.eval v)).run P w=.ok () E)
 (hK:wpList P ops Q rest (a.put o.dst undef) E):wpList P ops Q (o::rest) a w:=by
 refine wpList_plain hg fun K' hK'=>?_
 unfold Oper.wp;simp[execOp,hop,aX,Result.andThen];exact hK' _ _ hK
theorem wX {w:World} {b:Nat} {es:Array MapEntry} {clock:Nat} (hb:w.heap[b]? =some (.map es clock)) (o:Obj):w.grownBy (setBlock w b o) (some b):=
 ⟨rfl,rfl,rfl,by simp[setBlock],fun i _ hi=>heap_setBlock_other hb _ (fun e=>hi (by rw[e]))⟩
def QM (A:au) (w:World) (s F:Nat) (bB:St):Ending->World->Prop:=fun e E=>∃ b,e=.returned (ptr b)∧∃ A',aC A' bB E∧Grow A.L w A'.L E∧bT A A' s∧A'.bx s F=b∧A'.aY=A.aY
theorem wY {A:au} {D:St} {w:World} (hR:aC A D w) (s:Nat) (t:bL) (ht:D.aj.getD s none=some t) (F old:Nat) (hx:t.cell F=none) (Z:t.keys.length<1000000):
 zk 177 #[R (A.bt s) 0,I F,zu old] w (QM A w s F (D.bS s F ⟨0,old,false⟩)):=by
 have hb:=hR.map ht;generalize Kk:w.alloc (.cells #[zu 0,zu old,.bool false] 225)=wa;have hbl:Below w.heap.size w wa:=by rw[<-Kk];exact (Below.refl _ _).alloc (zr _) _
 have hblk:wa.heap[w.heap.size]? =some (.cells (sJ ⟨0,old,false⟩).toArray 225):=by rw[<-Kk];exact heap_alloc_new w _
 have ra:=hR.below hbl;have t7:=ra.fw ht 7 (v:=.map (some (A.bm s))) rfl;have hb1:=ra.map ht;have hup:=Fv hb1 F w.heap.size hx;generalize hwb:setBlock wa (A.bm s) (.map (gY A s t++[(⟨i64 F,ptr w.heap.size,t.cells.length⟩:MapEntry)]).toArray (t.cells.length+1))=wb at hup;obtain⟨rb,gb⟩:=hR.jY hbl ht hx (zr _) ⟨0,old,false⟩ hblk (w2:=wb) (by rw[<-hwb];exact wX hb1 _) (by rw[<-hwb];exact heap_setBlock_same hb1 _) (by rw[<-hwb];simp[setBlock]);have ht2:(D.bK s {t with cells:=(F,⟨0,old,false⟩)::t.cells}).aj.getD s none=some {t with cells:=(F,⟨0,old,false⟩)::t.cells}:=by rw[dC (dB ht),aV rfl]
 have t6:wb.cell? (J (A.bt s) 6)=some (A.eH s):=rb.fw ht2 6 rfl;have z6:=rb.wO ht2 6;have rc:=rb.alloc (.cells #[I F] 3);have aU:=(rc.mem.all (.keys s))
 rw[mem_keys ht2] at aU;have ho:(wb.alloc (.cells #[I F] 3)).ownsRow 0 3 1 (A.eH s) t.keys.length (t.keys.map i64):=aU.1;obtain⟨av,jc,hv,_⟩:=Ow.bN ho;have e:D.bS s F ⟨0,old,false⟩=(D.bK s {t with cells:=(F,⟨0,old,false⟩)::t.cells}).bK s {t with cells:=(F,⟨0,old,false⟩)::t.cells,keys:=t.keys++[F]}:=by
  unfold St.bS St.bK;rw[cK ht];simp
 rw[e]
 have FN : Hid (∀ v' w2, w2.ownsRow 0 3 1 v' (t.keys.length + 1) (t.keys.map i64 ++ [I (F : Int)]) -> (wb.alloc (.cells #[I (F : Int)] 3)).grownBy w2 (A.eH s).ownBlock -> (v'.ownBlock = (A.eH s).ownBlock ∨ ∀ g, v'.ownBlock = some g -> (wb.alloc (.cells #[I (F : Int)] 3)).heap.size <= g) ->
     (∃ A',aC A' ((D.bK s {t with cells:=(F,⟨0,old,false⟩)::t.cells}).bK s {t with cells:=(F,⟨0,old,false⟩)::t.cells,keys:=t.keys++[F]}) (w2.setCell (J (A.bt s) 6) v')∧Grow A.L w A'.L (w2.setCell (J (A.bt s) 6) v')∧bT A A' s∧A'.bx s F=w.heap.size∧A'.aY=A.aY)∧w2.cell? (J (A.bt s) 6)=some (A.eH s)∧w2.frozen? (J (A.bt s) 6)=false):=by
  intro v' w2 q1 q2 q3;obtain⟨k1,k2,k3,k4⟩:=rc.QA ht2 (t.keys++[F]) v' q2 (by simpa using q1) q3;refine⟨⟨_,k1,(gb.trans (Grow.alloc _ _ _)).trans k2,⟨rfl,rfl,rfl,rfl,rfl,rfl,rfl,rfl,rfl,rfl,rfl,fun k hk'=>?_,fun _ _=>rfl⟩,?_,rfl⟩,k3,k4⟩
  . funext j
    show (if k=s∧j=F then w.heap.size else A.bx k j)=A.bx k j;rw[aR (fun h=>hk' h.1)]
  . show (if s=s∧F=F then w.heap.size else A.bx s F)=w.heap.size
    rw[aV ⟨rfl,rfl⟩]
 have XV:=zH hup;rw[<-Kk] at XV t7;rw[hv] at t6 ho FN;have HO:=zH ho;have z6':wb.frozen? (J (A.bt s) 6)=false:=z6;have HZ:=zH (show wb.heap.size=w.heap.size+1 by rw[<-hwb,<-Kk];simp[setBlock]);clear hR ht hb hbl hblk ra hb1 hup rb gb ht2 rc aU ho e hwb Kk hx z6;generalize hn:t.keys.length=n at*;have HN:=zH Z;clear Z hn;obtain⟨ii,hii,hz0,hz1,hz2⟩:=info_parts CQ;go_enter Tryz.func177,Tryz.ntmps177;go_wp2_with (first|(refine yV rfl (.tmp 14) (.tmp 15) (.tmp 16) 116 rfl XV.out ?_)|(refine Ow.eu _ rfl (.tmp 21) (.tmp 23) 36 rfl 0 _ ii _ 1 8 Tryz.underlying36 hii hz0 hz1 hz2 rfl (by decide) (.slice av n jc) n (t.keys.map i64) rfl HO.out (J wb.heap.size 0) 1 1 (by omega) [I F] rfl rfl (by intro j' u hu;exact Ow.iw _ [I F] _ _ rfl j' u hu) (by intro u hu;obtain rfl:=List.mem_singleton.1 hu;rfl) (by have:=HN.out;unfold maxLen;omega) (by have:=HN.out;omega) (zz _) ?_;intro v' w4 q1 q2 q3;obtain⟨k1,k2,k3⟩:=FN.out v' w4 q1 q2 q3;obtain⟨a4,cap4,rfl,_⟩:=Ow.bN q1;have K1:=zH k1;clear k1 q1 q2 q3));go_ret;exact⟨_,rfl,K1.out⟩
end Go.Proofs.YthicolbbmjfkfaaGreat.Em
namespace Go.Proofs.YthicolbbmjfkfaaGreat.Em
open Go.ChangeShapes Go.WideShapes Go.ChangeAt Go.RowKit En
variable {A:au} {D:St} {w:World}
theorem vE (h:aC A D w) (i o n:Nat) (z:Int) (hz:z=(i:Int)) (hi:i<D.words.length) (hc:D.count<4000000000000000000):
 zk 45 #[R A.ba 0,I z,zu o,zu n] w (vC A w (D.cB i o n) (.bool (D.word i==o))):=by subst hz;exact nO h i o n hi hc
theorem KZ (l:List (Nat×kP)) (F:Nat) (x y:kP) (h:l.lookup F=none):upd ((F,x)::l) F y=(F,y)::l:=by
 have h1:=qo h;unfold upd;simp only[List.map_cons,if_true]
 congr 1
 conv=>rhs;rw[<-List.map_id l]
 refine List.map_congr_left fun p hp=>?_
 simp[h1 p hp]
theorem tH {D:St} {s:Nat} {t:bL} (ht:D.aj.getD s none=some t) (F:Nat) (x y:kP) (hx:t.cell F=none):
 (D.bS s F x).bK s {(D.bS s F x).t s with cells:=upd ((D.bS s F x).t s).cells F y}=D.bS s F y:=by
 have e:(D.bS s F x).t s={t with cells:=(F,x)::t.cells,keys:=t.keys++[F]}:=by
  refine cK ?_;unfold St.bS;rw[cK ht,dC (dB ht),aV rfl]
 rw[e];unfold St.bS St.bK;simp only[cK ht,List.set_set];rw[KZ _ _ _ _ hx]
theorem vF {D:St} {s:Nat} {t:bL} (ht:D.aj.getD s none=some t) (F:Nat) (x:kP):(D.bS s F x).aj.getD s none=some {t with cells:=(F,x)::t.cells,keys:=t.keys++[F]}:=by
 unfold St.bS;rw[cK ht,dC (dB ht),aV rfl]
theorem Bf (hR:aC A D w) (s:Nat) (t:bL) (ht:D.aj.getD s none=some t) (c:dN) (hc:D.calls.getD s none=some c) (G head:Nat) (Z:c.op.F<64) (hx:t.cell c.op.F=none) (hkl:t.keys.length<1000000) (aL:D.count<4000000000000000000) (b0 b1 b2 b3 b4:Nat)
 (B0:aN A.L w b0 (R A.H 0)) (B1:aN A.L w b1 (R (A.bc s) 0)) (B2:aN A.L w b2 (zu head)) (B3:aN A.L w b3 (zu G)) (B4:aN A.L w b4 (R (A.bt s) 0)) (hm:D.word (9+c.op.F)≠head):
 zk 191 #[R b0 0,R b1 0,R b2 0,R b3 0,R b4 0] w (kY A w s (D.run s (.dL G head))):=by
 have c0:=B0.cell;have c1:=B1.cell;have c2:=B2.cell;have c3:=B3.cell;have e2:=hR.z2;have k1:w.cell? (J (A.bc s) 1)=zt c.op.F:=hR.call hc 1 rfl;have n1:IntKind.i64.wrap (9+(c.op.F:Int))=9+(c.op.F:Int):=by rw[jG];omega
 have HL:=zH (vE hR.drew (9+c.op.F) head G (9+(c.op.F:Int)) (by omega) (by rw[hR.nw];omega) aL);have HG:=zG A.L w;have aX:D.run s (.dL G head)=(D.tick,some (.fresh G)):=by simp[St.run,bu hc,St.cB,hm]
 rw[aX];have hb:(D.word (9+c.op.F)==head)=false:=by simpa using hm
 have hcs:D.cB (9+c.op.F) head G=D.tick:=aR hm;rw[hb,hcs] at HL;have HB:Hid (∀ Y,aC A D.tick Y->Grow A.L w A.L Y->zk 131 #[R A.H 0,R (A.bt s) 0,R (A.bc s) 0,zu G] Y (bE A Y s (D.tick,.fresh G))∧zS Y b0 0 A.H 0∧zS Y b1 0 (A.bc s) 0∧zV Y b3 0 G∧zS Y b4 0 (A.bt s) 0):=
  fun Y q g=>⟨zF q s G,(B0.grow g).cell,(B1.grow g).cell,(B3.grow g).cell,(B4.grow g).cell⟩
 clear hR ht hc Z hx hkl aL B0 B1 B2 B3 B4 hm aX hb hcs;generalize c.op.F=F at*;go_enter Tryz.func191,Tryz.ntmps191;go_wp2_with fail;refine wp_region_still_tail 12 (by kernel_rfl) (by kernel_rfl) ?_;simp only[jS,jT,jU,jV]
 repeat still_step
 refine wpStill_nil ?_;change wpList _ _ _ _ _ w.drew;generalize w.drew=wd at*;go_wp2_with (first|(go_at_call 45;refine HL.out.mono ?_;rintro e Y ⟨rfl,q1,q2⟩;have g1:=HG.out.trans q2;obtain⟨hf,d0,d1,d3,d4⟩:=HB.out Y q1 g1;have HQ:=zH (zA hf g1);clear q1 q2 g1 hf)|(go_at_call 131;refine HQ.out.1.mono ?_;rintro e w2 ⟨A2,v,rfl,p1,p2,p3,p4⟩));go_ret;exact⟨A2,v,rfl,p1,HQ.out.2.trans p2,p3,p4⟩
theorem Db (hR:aC A D w) (s:Nat) (t:bL) (ht:D.aj.getD s none=some t) (c:dN) (hc:D.calls.getD s none=some c) (G head:Nat) (Z:c.op.F<64) (hx:t.cell c.op.F=none) (hkl:t.keys.length<1000000) (aL:D.count<4000000000000000000) (b0 b1 b2 b3 b4:Nat)
 (B0:aN A.L w b0 (R A.H 0)) (B1:aN A.L w b1 (R (A.bc s) 0)) (B2:aN A.L w b2 (zu head)) (B3:aN A.L w b3 (zu G)) (B4:aN A.L w b4 (R (A.bt s) 0)) (hm:D.word (9+c.op.F)=head):
 zk 191 #[R b0 0,R b1 0,R b2 0,R b3 0,R b4 0] w (kY A w s (D.run s (.dL G head))):=by
 have c0:=B0.cell;have c1:=B1.cell;have c2:=B2.cell;have c3:=B3.cell;have e2:=hR.z2;have k1:w.cell? (J (A.bc s) 1)=zt c.op.F:=hR.call hc 1 rfl;have n1:IntKind.i64.wrap (9+(c.op.F:Int))=9+(c.op.F:Int):=by rw[jG];omega
 have HL:=zH (vE hR.drew (9+c.op.F) head G (9+(c.op.F:Int)) (by omega) (by rw[hR.nw];omega) aL);have HG:=zG A.L w;have aX:D.run s (.dL G head)=((D.put (9+c.op.F) G).bS s c.op.F ⟨G,0,true⟩,some (.fin {})):=by simp[St.run,bu hc,St.cB,hm]
 rw[aX];have hb:(D.word (9+c.op.F)==head)=true:=by simpa using hm
 have hcs:D.cB (9+c.op.F) head G=D.put (9+c.op.F) G:=aV hm;rw[hb,hcs] at HL;have HB:Hid (∀ Y,aC A (D.put (9+c.op.F) G) Y->Grow A.L w A.L Y->zk 177 #[R (A.bt s) 0,I c.op.F,zu 0] Y.drew (QM A Y.drew s c.op.F ((D.put (9+c.op.F) G).bS s c.op.F ⟨0,0,false⟩))∧zS Y b1 0 (A.bc s) 0∧zS Y b4 0 (A.bt s) 0∧zT Y (A.bc s) 1 c.op.F):=
  fun Y q g=>⟨wY q.drew s t ht c.op.F 0 hx hkl,(B1.grow g).cell,(B4.grow g).cell,q.call hc 1 rfl⟩
 have HE : Hid (∀ Y w2 A1 b, Grow A.L w A.L Y -> aC A1 ((D.put (9 + c.op.F) G).bS s c.op.F ⟨0, 0, false⟩) w2 -> Grow A.L Y A1.L w2 -> bT A A1 s -> A1.bx s c.op.F = b -> A1.aY = A.aY ->
     zV w2 b 0 0∧w2.frozen? (J b 0)=false∧zB w2 b 2 false∧w2.frozen? (J b 2)=false∧zV w2 b3 0 G∧
     ((w2.setCell (J b 0) (zu G)).setCell (J b 2) (.bool true)).cell? (J b0 0)=zs A.H 0∧((w2.setCell (J b 0) (zu G)).setCell (J b 2) (.bool true)).cell? (J b1 0)=zs (A.bc s) 0∧
     zk 113 #[R A.H 0,R (A.bc s) 0,.agg #[I 0,I 0,.slice none 0 0,I 0,I 0]] ((w2.setCell (J b 0) (zu G)).setCell (J b 2) (.bool true)) (bE A1 ((w2.setCell (J b 0) (zu G)).setCell (J b 2) (.bool true)) s ((D.put (9+c.op.F) G).bS s c.op.F ⟨G,0,true⟩,.fin {}))∧
     Grow A.L w A1.L ((w2.setCell (J b 0) (zu G)).setCell (J b 2) (.bool true))):=by
  intro Y w2 A1 b g1 r2 g2 st hbx hvp;have ht1:(D.put (9+c.op.F) G).aj.getD s none=some t:=ht;have ht2:=vF ht1 c.op.F ⟨0,0,false⟩;have hx2:({t with cells:=(c.op.F,(⟨0,0,false⟩:kP))::t.cells,keys:=t.keys++[c.op.F]}:bL).cell c.op.F=some ⟨0,0,false⟩:=by simp[bL.cell,List.lookup]
  obtain⟨a0,a1,a2⟩:=r2.Fb ht2 hx2;have z0:=r2.I6 ht2 hx2 0;have z2:=r2.I6 ht2 hx2 2;obtain⟨r3,g3⟩:=r2.uD ht2 hx2 ⟨G,0,false⟩ 0 (zu G) rfl;have e3:=tH ht1 c.op.F ⟨0,0,false⟩ ⟨G,0,false⟩ hx;rw[cK ht2] at e3;rw[e3] at r3;have ht3:=vF ht1 c.op.F ⟨G,0,false⟩;have hx3:({t with cells:=(c.op.F,(⟨G,0,false⟩:kP))::t.cells,keys:=t.keys++[c.op.F]}:bL).cell c.op.F=some ⟨G,0,false⟩:=by simp[bL.cell,List.lookup]
  obtain⟨r4,g4⟩:=r3.uD ht3 hx3 ⟨G,0,true⟩ 2 (.bool true) rfl;have e4:=tH ht1 c.op.F ⟨G,0,false⟩ ⟨G,0,true⟩ hx;rw[cK ht3] at e4;rw[e4] at r4;rw[hbx] at a0 a2 z0 z2 g3 r4 g4;have g5:=((g1.trans g2).trans g3).trans g4;have he:=jf r4 s {} 0 0 0 0 (.slice none 0 0) rfl (.inr ⟨rfl,rfl⟩);rw[st.H,st.bc] at he;exact⟨a0,z0,a2,z2,(B3.grow (g1.trans g2)).cell,(B0.grow g5).cell,(B1.grow g5).cell,he,g5⟩
 clear hR ht hc Z hx hkl aL B0 B1 B2 B3 B4 hm aX hb hcs;generalize (D.put (9+c.op.F) G).bS s c.op.F ⟨0,0,false⟩=aH at*;generalize (D.put (9+c.op.F) G).bS s c.op.F ⟨G,0,true⟩=aD at*;generalize c.op.F=F at*;go_enter Tryz.func191,Tryz.ntmps191;go_wp2_with fail;refine wp_region_still_tail 12 (by kernel_rfl) (by kernel_rfl) ?_;simp only[jS,jT,jU,jV]
 repeat still_step
 refine wpStill_nil ?_;change wpList _ _ _ _ _ w.drew;generalize w.drew=wd at*;go_wp2_with (go_at_call 45;refine HL.out.mono ?_;rintro e Y ⟨rfl,q1,q2⟩;have g1:=HG.out.trans q2;obtain⟨hf,d1,d4,d5⟩:=HB.out Y q1 g1;have HQ:=zH (zA hf (g1.trans (Grow.drew _ _)));clear q1 q2 g1 hf);refine wp_region_still_tail 6 (by kernel_rfl) (by kernel_rfl) ?_;simp only[jS,jT,jU,jV]
 repeat still_step
 refine wpStill_nil ?_;change wpList _ _ _ _ _ Y.drew;generalize Y.drew=Tt at*;go_wp2_with (first|(go_at_call 177;refine HQ.out.1.mono ?_;rintro e w2 ⟨b,rfl,A1,r2,g2,st,hbx,hvp⟩;obtain⟨a0,z0,a2,z2,d3,y0,y1,he,g5⟩:=HE.out _ w2 A1 b HQ.out.2 r2 g2 st hbx hvp;have HZ:=zH (zA he (zA g5 st));clear r2 g2 st hbx hvp he g5)|(go_at_call 113;refine HZ.out.1.mono ?_;rintro e w3 ⟨A2,v,rfl,p1,p2,p3,p4⟩));go_ret;exact⟨A2,v,rfl,p1,HZ.out.2.1.trans p2,HZ.out.2.2.trans p3,p4⟩
theorem N8 (hR:aC A D w) (s:Nat) (t:bL) (ht:D.aj.getD s none=some t) (c:dN) (hc:D.calls.getD s none=some c) (G head:Nat) (Z:c.op.F<64) (hx:t.cell c.op.F=none) (hkl:t.keys.length<1000000) (aL:D.count<4000000000000000000) (b0 b1 b2 b3 b4:Nat)
 (B0:aN A.L w b0 (R A.H 0)) (B1:aN A.L w b1 (R (A.bc s) 0)) (B2:aN A.L w b2 (zu head)) (B3:aN A.L w b3 (zu G)) (B4:aN A.L w b4 (R (A.bt s) 0)):
 zk 191 #[R b0 0,R b1 0,R b2 0,R b3 0,R b4 0] w (kY A w s (D.run s (.dL G head))):=by
 by_cases hm:D.word (9+c.op.F)=head
 . exact Db hR s t ht c hc G head Z hx hkl aL b0 b1 b2 b3 b4 B0 B1 B2 B3 B4 hm
 . exact Bf hR s t ht c hc G head Z hx hkl aL b0 b1 b2 b3 b4 B0 B1 B2 B3 B4 hm
def wZ (D:St) (s:Nat) (hu:dJ) (G:Nat):Prop:=∀ A w,aC A D w->A.mp=0->KW A w D s hu G
theorem N9 (hR:aC A D w) (s:Nat) (hmp:A.mp=0) (hu:dJ) (G b0 b1:Nat) (B0:gV (kp A D s) A.L w b0 hu) (B1:aN A.L w b1 (zu G)) (hv:VL D G) (aL:D.count<4000000000000000000) (HT:D.word (af G 2)=0->wZ D.tick s hu 0):
 zk 213 #[R b0 0,R b1 0] w (kY A w s (D.run s (.older hu G))):=by
 have hsl:=hR.sl;obtain⟨bh,X0,hh0⟩:=B0;obtain⟨vt,TT,fh,hth⟩:=id hh0;have c0:=X0.cell;have c1:=B1.cell;have h0:w.cell? (J bh 0)=zs A.H 0:=fh.cell 0 rfl;have e2:=hR.z2;have HK:Hid (∀ E,Kp A w E->zS E b0 0 bh 0∧zV E b1 0 G∧zS E bh 0 A.H 0∧zS E A.H 2 A.ba 0):=by
  obtain⟨_,x0⟩:=X0;obtain⟨_,x1⟩:=B1;exact fun E k=>⟨k.fix _ _ _ x0.1 c0,k.fix _ _ _ x1.1 c1,k.fix _ _ _ fh.1 h0,k.ea⟩
 have HS:=zH (eQ G 2 2 rfl hv.lo (by have:=hv.hi;omega) hv.u (by omega));have HL:=zH (iJ hR.drew (af G 2) (dO hR hv.lo hv.hi (by omega)) aL);have HG:=zG A.L w;have HB:Hid (∀ Y,aC A D.tick Y->Grow A.L w A.L Y->zk 162 #[R bh 0,zu (D.word (af G 2):Int)] Y (bE A Y s (D.tick.visit s hu (D.word (af G 2))))):=
  fun Y r g=>zN r s bh hu (hh0.grow g) _ fun hz=>HT hz A Y r hmp
 have aX:D.run s (.older hu G)=((D.tick.visit s hu (D.word (af G 2))).1,some (D.tick.visit s hu (D.word (af G 2))).2):=rfl;rw[aX];clear hR hh0 fh hth hv aL HT aX X0 B1 hsl hmp;generalize D.tick.visit s hu (D.word (af G 2))=res at*;generalize D.word (af G 2)=nx at*;go_enter Tryz.func213,Tryz.ntmps213;go_wp2_with fail
 go_region_held3 (fun E=>zS E b0 0 bh 0∧zV E b1 0 G∧zS E bh 0 A.H 0∧zS E A.H 2 A.ba 0)
  (first|exact⟨c0,c1,h0,e2⟩|assumption|exact HK.out _ (Kp.of (by assumption) (by assumption) (by assumption)))
  (first|(go_at_call 85;refine (HS.out _).mono ?_;rintro e E ⟨rfl,rfl⟩)|(go_at_call 42;refine HL.out.mono ?_;rintro e Y ⟨rfl,q1,q2⟩;have q4:=HG.out.trans q2;have q3:=bT.refl A s;clear q2)|(go_at_call 162;refine (HB.out _ (by assumption) (by assumption)).mono ?_;rintro e w2 ⟨A',v,rfl,p1,p2,p3,p4⟩;have p5:=(‹Grow A.L w A.L _›).trans p2))
 go_wp2_with fail;go_ret;exact⟨A',_,rfl,p1,p5,p3,p4⟩
theorem Oa (hR:aC A D w) (s:Nat) (hu:dJ) (G id b0 b1 b2:Nat) (B0:gV (kp A D s) A.L w b0 hu) (B1:aN A.L w b1 (I id)) (B2:aN A.L w b2 (zu G)) (hid:id<=65535) (hpl:D.place id<D.words.length) (hw:D.word (D.place id)<18446744073709551616) (aL:D.count<4000000000000000000):
 zk 202 #[R b0 0,R b1 0,R b2 0] w (kY A w s (D.run s (.maker hu G id))):=by
 obtain⟨bh,X0,hh0⟩:=B0;obtain⟨vt,TT,fh,hth⟩:=_root_.id hh0;have c0:=X0.cell;have c1:=B1.cell;have h0:w.cell? (J bh 0)=zs A.H 0:=fh.cell 0 rfl;have e2:=hR.z2;have HK:Hid (∀ E,Kp A w E->zS E b0 0 bh 0∧zT E b1 0 id∧zS E bh 0 A.H 0∧zS E A.H 2 A.ba 0):=by
  obtain⟨_,x0⟩:=X0;obtain⟨_,x1⟩:=B1;exact fun E k=>⟨k.fix _ _ _ x0.1 c0,k.fix _ _ _ x1.1 c1,k.fix _ _ _ fh.1 h0,k.ea⟩
 have HP:=zH (fu hR.drew id hid);have HL:=zH (iJ hR.drew (D.place id) hpl aL);have HU:=zH (fun E=>jl (D.word (D.place id)) hw E);have HG:=zG A.L w;have HB:Hid (∀ Y,aC A D.tick Y->Grow A.L w A.L Y->zS Y b0 0 bh 0∧zT Y b1 0 id∧zV Y b2 0 G∧zV Y bh 3 hu.at_∧dK (kp A D.tick s) A.L Y bh hu):=by
  intro Y q g;have k:dK (kp A D.tick s) A.L Y bh hu:=hh0.grow g;exact⟨(X0.grow g).cell,(B1.grow g).cell,(B2.grow g).cell,(fh.grow g).cell 3 rfl,k⟩
 have aX:D.run s (.maker hu G id)=(D.tick,some (if gX (D.word (D.place id))=0∨hu.at_<gX (D.word (D.place id))∨bz (D.word (D.place id))=4 then .older hu G else if bz (D.word (D.place id))=2 then .ended hu G id else .ended hu G 0)):=by
  simp only[St.run];split<;>(try split)<;>rfl
 rw[aX];have Dc:Hid (∀ Y,aC A D.tick Y->Grow A.L w A.L Y->zk 201 #[R bh 0,zu G] Y (bE A Y s (D.tick,.older hu G))):=fun Y q g=>mX q s bh hu (show dK (kp A D.tick s) A.L Y bh hu from hh0.grow g) G
 have VO:Hid (∀ Y,aC A D.tick Y->Grow A.L w A.L Y->zk 200 #[R bh 0,zu G,I id] Y (bE A Y s (D.tick,.ended hu G id))):=fun Y q g=>uE q s bh hu (show dK (kp A D.tick s) A.L Y bh hu from hh0.grow g) G id
 have Tu:Hid (∀ Y,aC A D.tick Y->Grow A.L w A.L Y->zk 200 #[R bh 0,zu G,I 0] Y (bE A Y s (D.tick,.ended hu G 0))):=fun Y q g=>uE q s bh hu (show dK (kp A D.tick s) A.L Y bh hu from hh0.grow g) G 0
 clear hR hid hpl hw aL X0 B1 B2 fh hth hh0 aX;generalize D.word (D.place id)=x at*;generalize hst:bz x=st at*;generalize hen:gX x=en at*;generalize hu.at_=ha at*;clear hst hen
 by_cases Jf:en=0
 . rw[aV (Or.inl Jf)]
   obtain⟨fa1,fa2,fa3,fa4,fa5⟩:=uA (x:=en) (c:=0) (ci:=0) (by omega);clear Jf;go_enter Tryz.func202,Tryz.ntmps202;go_wp2_with fail
   go_region_held3 (fun E=>zS E b0 0 bh 0∧zT E b1 0 id∧zS E bh 0 A.H 0∧zS E A.H 2 A.ba 0)
    (first|exact⟨c0,c1,h0,e2⟩|assumption|exact HK.out _ (Kp.of (by assumption) (by assumption) (by assumption)))
    (first|(go_at_call 48;refine HP.out.mono ?_;rintro e E ⟨rfl,rfl⟩)|(go_at_call 42;refine HL.out.mono ?_;rintro e Y ⟨rfl,q1,q2⟩;have q4:=HG.out.trans q2;have q3:=bT.refl A s;clear q2)|(go_at_call 109;refine (HU.out _).mono ?_;rintro e E ⟨rfl,rfl⟩))
   obtain⟨d0,d1,d2,d3,Z⟩:=HB.out _ (by assumption) (by assumption);have HQ:=zH (zA (‹aC A D.tick _›) (zA (‹Grow A.L w A.L _›) Z));clear Z;go_wp2_with (go_at_call 201;refine (Dc.out _ HQ.out.1 HQ.out.2.1).mono ?_;rintro e w2 ⟨A2,v,rfl,p1,p2,p3,p4⟩);go_ret;exact⟨A2,v,rfl,p1,HQ.out.2.1.trans p2,p3,p4⟩
 . have fa1:((en:Int)==0)=false:=by simp<;>omega
   have fa2:((en:Int)=0)=False:=by simp<;>omega
   have fa3:(en=0)=False:=by simp<;>omega
   have fa4:(en==0)=false:=by simp<;>omega
   have fa5:((en:Int) !=0)=true:=by simp<;>omega
   by_cases hlt:ha<en
   . rw[aV (Or.inr (Or.inl hlt))]
     obtain⟨K6,K7,K8,K9⟩:=Tj (x:=ha) (c:=en) (xi:=(ha:Int)) (ci:=(en:Int)) (by omega);clear Jf hlt;go_enter Tryz.func202,Tryz.ntmps202;go_wp2_with fail
     go_region_held3 (fun E=>zS E b0 0 bh 0∧zT E b1 0 id∧zS E bh 0 A.H 0∧zS E A.H 2 A.ba 0)
      (first|exact⟨c0,c1,h0,e2⟩|assumption|exact HK.out _ (Kp.of (by assumption) (by assumption) (by assumption)))
      (first|(go_at_call 48;refine HP.out.mono ?_;rintro e E ⟨rfl,rfl⟩)|(go_at_call 42;refine HL.out.mono ?_;rintro e Y ⟨rfl,q1,q2⟩;have q4:=HG.out.trans q2;have q3:=bT.refl A s;clear q2)|(go_at_call 109;refine (HU.out _).mono ?_;rintro e E ⟨rfl,rfl⟩))
     obtain⟨d0,d1,d2,d3,Z⟩:=HB.out _ (by assumption) (by assumption);have HQ:=zH (zA (‹aC A D.tick _›) (zA (‹Grow A.L w A.L _›) Z));clear Z;go_wp2_with (go_at_call 201;refine (Dc.out _ HQ.out.1 HQ.out.2.1).mono ?_;rintro e w2 ⟨A2,v,rfl,p1,p2,p3,p4⟩);go_ret;exact⟨A2,v,rfl,p1,HQ.out.2.1.trans p2,p3,p4⟩
   . have K6:decide ((ha:Int)<(en:Int))=false:=by simp<;>omega
     have K7:((ha:Int)<(en:Int))=False:=by simp<;>omega
     have K8:(ha<en)=False:=by simp<;>omega
     have K9:decide (ha<en)=false:=by simp<;>omega
     by_cases h4:st=4
     . rw[aV (Or.inr (Or.inr h4))]
       obtain⟨Ob,Oc,Od,Oe,Og⟩:=uA (x:=st) (c:=4) (ci:=4) (by omega);clear Jf hlt h4;go_enter Tryz.func202,Tryz.ntmps202;go_wp2_with fail
       go_region_held3 (fun E=>zS E b0 0 bh 0∧zT E b1 0 id∧zS E bh 0 A.H 0∧zS E A.H 2 A.ba 0)
        (first|exact⟨c0,c1,h0,e2⟩|assumption|exact HK.out _ (Kp.of (by assumption) (by assumption) (by assumption)))
        (first|(go_at_call 48;refine HP.out.mono ?_;rintro e E ⟨rfl,rfl⟩)|(go_at_call 42;refine HL.out.mono ?_;rintro e Y ⟨rfl,q1,q2⟩;have q4:=HG.out.trans q2;have q3:=bT.refl A s;clear q2)|(go_at_call 109;refine (HU.out _).mono ?_;rintro e E ⟨rfl,rfl⟩))
       obtain⟨d0,d1,d2,d3,Z⟩:=HB.out _ (by assumption) (by assumption);have HQ:=zH (zA (‹aC A D.tick _›) (zA (‹Grow A.L w A.L _›) Z));clear Z;go_wp2_with (go_at_call 201;refine (Dc.out _ HQ.out.1 HQ.out.2.1).mono ?_;rintro e w2 ⟨A2,v,rfl,p1,p2,p3,p4⟩);go_ret;exact⟨A2,v,rfl,p1,HQ.out.2.1.trans p2,p3,p4⟩
     . rw[aR (by omega)]
       obtain⟨Ob,Oc,Od,Oe,Og⟩:=rf (x:=st) (c:=4) (ci:=4) (by omega)
       by_cases h2:st=2
       . rw[aV h2]
         obtain⟨fd1,QN,QO,QP,QQ⟩:=uA (x:=st) (c:=2) (ci:=2) (by omega);clear Jf hlt h4 h2;go_enter Tryz.func202,Tryz.ntmps202;go_wp2_with fail
         go_region_held3 (fun E=>zS E b0 0 bh 0∧zT E b1 0 id∧zS E bh 0 A.H 0∧zS E A.H 2 A.ba 0)
          (first|exact⟨c0,c1,h0,e2⟩|assumption|exact HK.out _ (Kp.of (by assumption) (by assumption) (by assumption)))
          (first|(go_at_call 48;refine HP.out.mono ?_;rintro e E ⟨rfl,rfl⟩)|(go_at_call 42;refine HL.out.mono ?_;rintro e Y ⟨rfl,q1,q2⟩;have q4:=HG.out.trans q2;have q3:=bT.refl A s;clear q2)|(go_at_call 109;refine (HU.out _).mono ?_;rintro e E ⟨rfl,rfl⟩))
         obtain⟨d0,d1,d2,d3,Z⟩:=HB.out _ (by assumption) (by assumption);have HQ:=zH (zA (‹aC A D.tick _›) (zA (‹Grow A.L w A.L _›) Z));clear Z;go_wp2_with (go_at_call 200;refine (VO.out _ HQ.out.1 HQ.out.2.1).mono ?_;rintro e w2 ⟨A2,v,rfl,p1,p2,p3,p4⟩);go_ret;exact⟨A2,v,rfl,p1,HQ.out.2.1.trans p2,p3,p4⟩
       . rw[aR h2]
         obtain⟨fd1,QN,QO,QP,QQ⟩:=rf (x:=st) (c:=2) (ci:=2) (by omega);clear Jf hlt h4 h2;go_enter Tryz.func202,Tryz.ntmps202;go_wp2_with fail
         go_region_held3 (fun E=>zS E b0 0 bh 0∧zT E b1 0 id∧zS E bh 0 A.H 0∧zS E A.H 2 A.ba 0)
          (first|exact⟨c0,c1,h0,e2⟩|assumption|exact HK.out _ (Kp.of (by assumption) (by assumption) (by assumption)))
          (first|(go_at_call 48;refine HP.out.mono ?_;rintro e E ⟨rfl,rfl⟩)|(go_at_call 42;refine HL.out.mono ?_;rintro e Y ⟨rfl,q1,q2⟩;have q4:=HG.out.trans q2;have q3:=bT.refl A s;clear q2)|(go_at_call 109;refine (HU.out _).mono ?_;rintro e E ⟨rfl,rfl⟩))
         obtain⟨d0,d1,d2,d3,Z⟩:=HB.out _ (by assumption) (by assumption);have HQ:=zH (zA (‹aC A D.tick _›) (zA (‹Grow A.L w A.L _›) Z));clear Z;go_wp2_with (go_at_call 200;refine (Tu.out _ HQ.out.1 HQ.out.2.1).mono ?_;rintro e w2 ⟨A2,v,rfl,p1,p2,p3,p4⟩);go_ret;exact⟨A2,v,rfl,p1,HQ.out.2.1.trans p2,p3,p4⟩
end Go.Proofs.YthicolbbmjfkfaaGreat.Em
