import Derived.Test.YthicolbbmjfkfaaGreatQh6
import Derived.Laws.ResultCell
import Derived.Laws.Rows
import Derived.Deep.Cut
set_option linter.unusedVariables false
set_option linter.unusedSimpArgs false
set_option maxRecDepth 100000
set_option maxHeartbeats 1600000
namespace Go.Proofs.YthicolbbmjfkfaaGreat.Em
open Go.ChangeShapes Go.WideShapes Go.ChangeAt Go.RowKit En
def au.tmp (A:au) (b:Nat):au:={A with L:=gU A.L b .tmp}
theorem Jn (A:au) (D:St) (b:Nat) (q:bN):aY (A.tmp b) D q=aY A D q:=by cases q<;>rfl
theorem aD.lg {A:au} {D:St} {w:World} (h:aD A D w) (o:Obj):aD (A.tmp w.heap.size) D (w.alloc o)∧Grow A.L w (A.tmp w.heap.size).L (w.alloc o)∧(A.tmp w.heap.size).L w.heap.size=some .tmp∧(w.alloc o).heap[w.heap.size]? =some o:=by
 have g:Grow A.L w (A.tmp w.heap.size).L (w.alloc o):=(Grow.alloc A.L w o).gU (zr _) _;refine⟨⟨⟨fun r=>?_,fun b Z=>?_⟩,h.ev.grow g,h.sl,h.nw,h.nt,h.nv,h.n8,h.nc⟩,g,gH _ _ _,heap_alloc_new w o⟩
 . rw[Jn]
   exact (h.mem.all r).frame (fun b Z _=>Below.heap_alloc w o b Z) (fun b Z=>di (by omega))
 . have:w.heap.size+1<=b:=by simpa using Z
   show gU A.L w.heap.size .tmp b=none;rw[di (by omega)];exact h.mem.fresh b (by omega)
theorem bX {L L':cZ} {w G:World} {b:Nat} {o:Obj} (h:L b=some .tmp∧w.heap[b]? =some o) (g:Grow L w L' G):L' b=some .tmp∧G.heap[b]? =some o:=⟨(g.lab b (eQ h.2)).trans h.1,(g.keep b (eQ h.2) h.1).trans h.2⟩
structure But (b:Nat) (w G:World):Prop where
 os:G.os=w.os
 tape:G.tape=w.tape
 output:G.output=w.output
 size:G.heap.size=w.heap.size
 block:∀ k,k≠b->G.heap[k]? =w.heap[k]?
theorem But.setCell (w:World) (a:Addr) (v:Value):But a.block w (w.setCell a v):=⟨rfl,rfl,rfl,by simp[World.setCell],fun k V=>Below.heap_setCell _ _ _ _ V⟩
theorem But.trans {b:Nat} {w H w2:World} (h:But b w H) (k:But b H w2):But b w w2:=⟨k.os.trans h.os,k.tape.trans h.tape,k.output.trans h.output,k.size.trans h.size,fun j hj=>(k.block j hj).trans (h.block j hj)⟩
theorem But.setCells (b:Nat):∀ (vs:List Value) (o:Nat) (w:World),But b w (w.setCells b o vs)
 |[],_,w=>⟨rfl,rfl,rfl,rfl,fun _ _=>rfl⟩
 |v::vs,o,w=>(But.setCell w (J b o) v).trans (But.setCells b vs (o+1) (w.setCell (J b o) v))
section
variable {L:cZ} {w G:World} {b:Nat} (hl:L b=some .tmp) (h:But b w G)
include hl h
theorem dQ.but {size:Nat} {v:Value} {xs:List Value} (f:dQ L w size v xs):dQ L G size v xs:=by
 obtain⟨ad,n,cap,rfl,e2,e3,e4,e5⟩:=f;refine⟨ad,n,cap,rfl,e2,e3,e4,?_⟩
 rcases e5 with h0|⟨g,off,rfl,e7,e8,e9⟩
 . exact .inl h0
 . refine .inr ⟨g,off,rfl,e7,by rw[h.size];exact e8,fun j hj=>?_⟩
   rw[World.cell?_of_block (w:=w) (a:=(J g (off+j))) (h.block g (by rintro rfl;rw[hl] at e7;cases e7))];exact e9 j hj
theorem jL.but {v:Value} {xs:List Value} (f:jL L w v xs):jL L G v xs:=by
 refine⟨f.1.but hl h,fun g off n cap hv=>?_⟩
 rcases f.2 g off n cap hv with h0|⟨cs,hc⟩
 . exact .inl h0
 . by_cases hn:n=0
   . exact .inl hn
   . obtain⟨ad,n',cap',e1,e2,e3,e4,e5⟩:=f.1
     obtain⟨rfl,rfl,rfl⟩:ad=za g off∧n'=n∧cap'=cap:=by rw[hv] at e1;simp at e1;exact⟨e1.1.symm,e1.2.1.symm,e1.2.2.symm⟩
     obtain⟨g',off',e6,e7,_⟩:=e5.resolve_left hn;obtain⟨rfl,rfl⟩:g=g'∧off=off':=by simpa using e6
     exact .inr ⟨cs,(h.block g (by rintro rfl;rw[hl] at e7;cases e7)).trans hc⟩
theorem pE.but:∀ {l:List Ev} {xs:List Value},pE L w l xs->pE L G l xs
 |[],_,f=>f
 |_::_,_,⟨vp,ys,h1,h2,h3⟩=>⟨vp,ys,h1,h2.but hl h,pE.but h3⟩
end
theorem aD.but {A:au} {D:St} {w G:World} {b:Nat} (hR:aD A D w) (hl:A.L b=some .tmp) (h:But b w G):aD A D G:=by
 refine⟨⟨fun r=>?_,fun k V=>hR.mem.fresh k (by rw[<-h.size];exact V)⟩,hR.ev.but hl h,hR.sl,hR.nw,hR.nt,hR.nv,hR.n8,hR.nc⟩
 by_cases hr:r=.tmp
 . subst hr;trivial
 . refine (hR.mem.all r).frame (fun k V hk'=>h.block k ?_) (fun _ _=>rfl)
   rintro rfl;rw[hl] at hk';exact hr (zj hk').symm
theorem Grow.but {L L':cZ} {w H w2:World} {b:Nat} (g:Grow L w L' H) (Z:w.heap.size<=b) (h:But b H w2):Grow L w L' w2:=
 ⟨h.os.trans g.os,h.tape.trans g.tape,h.output.trans g.output,by rw[h.size];exact g.size,fun k V hl=>(h.block k (by omega)).trans (g.block k V hl),g.lab,fun k V hl=>(h.block k (by omega)).trans (g.keep k V hl)⟩
structure jf (L:cZ) (w:World) (L':cZ) (G:World):Prop where
 size:w.heap.size<=G.heap.size
 block:∀ b,b<w.heap.size->L b=none->G.heap[b]? =w.heap[b]?
 lab:∀ b,b<w.heap.size->L b=none->L' b=none
section
variable {p:KP} {L L':cZ} {w G:World}
theorem Fix.soft {b:Nat} {o:Obj} (h:Fix L w b o) (g:jf L w L' G):Fix L' G b o:=⟨g.lab b (eQ h.2) h.1,(g.block b (eQ h.2) h.1).trans h.2⟩
theorem aK.soft {b:Nat} {v:Value} (h:aK L w b v) (g:jf L w L' G):aK L' G b v:=let ⟨T,h⟩:=h;⟨T,h.soft g⟩
theorem dQ.soft {size:Nat} {v:Value} {xs:List Value} (h:dQ L w size v xs) (g:jf L w L' G):dQ L' G size v xs:=by
 obtain⟨a,n,cap,h1,h2,h3,h4,h5⟩:=h;refine⟨a,n,cap,h1,h2,h3,h4,?_⟩
 rcases h5 with h5|⟨b,off,e1,e2,e3,e4⟩
 . exact .inl h5
 . refine .inr ⟨b,off,e1,g.lab b e3 e2,qW e3 g.size,fun j hj=>?_⟩
   rw[World.cell?_of_block (w:=w) (a:=(J b (off+j))) (g.block b e3 e2)];exact e4 j hj
theorem Ca.soft {e:Nat} {L L':cZ} {w G:World} {v:Value} (g:jf L w L' G):∀ {k:Option S},Ca e L w v k->Ca e L' G v k
 |none,h=>h
 |some .now,h=>h
 |some (.live s),h=>let ⟨b0,b1,e,k0,k1⟩:=h;⟨b0,b1,e,k0.soft g,k1.soft g⟩
 |some (.head E),h=>let ⟨b0,b1,e,k0,k1⟩:=h;⟨b0,b1,e,k0.soft g,k1.soft g⟩
 |some (.visit E bZ F),h=>let ⟨b0,b1,b2,b3,e,k0,k1,k2,k3⟩:=h;⟨b0,b1,b2,b3,e,k0.soft g,k1.soft g,k2.soft g,k3.soft g⟩
 |some (.maker E bZ F id),h=>let ⟨b0,b1,b2,b3,b4,e,k0,k1,k2,k3,k4⟩:=h;⟨b0,b1,b2,b3,b4,e,k0.soft g,k1.soft g,k2.soft g,k3.soft g,k4.soft g⟩
 |some (.lM E bZ F b),h=>let ⟨b0,b1,b2,b3,b4,e,k0,k1,k2,k3,k4⟩:=h;⟨b0,b1,b2,b3,b4,e,k0.soft g,k1.soft g,k2.soft g,k3.soft g,k4.soft g⟩
 |some (.on E F),h=>let ⟨b0,b1,b2,e,k0,k1,k2⟩:=h;⟨b0,b1,b2,e,k0.soft g,k1.soft g,k2.soft g⟩
 |some (.unlink E bZ F),h=>let ⟨b0,b1,b2,b3,e,k0,k1,k2,k3⟩:=h;⟨b0,b1,b2,b3,e,k0.soft g,k1.soft g,k2.soft g,k3.soft g⟩
 |some (.cut E bZ F nx),h=>let ⟨b0,b1,b2,b3,b4,e,k0,k1,k2,k3,k4⟩:=h;⟨b0,b1,b2,b3,b4,e,k0.soft g,k1.soft g,k2.soft g,k3.soft g,k4.soft g⟩
theorem tT.soft {A A':au} {D:St} {w G:World} (h:tT A D w) (e:A'.Du=A.Du) (g:jf A.L w A'.L G):tT A' D G:=
 ⟨by rw[xZ e,FZ e];exact h.sw.soft g,h.cu.keep e⟩
theorem kG.soft {b:Nat} {r:ic} (h:kG p L w b r) (g:jf L w L' G):kG p L' G b r:=let ⟨vp,T,h1,h2⟩:=h;⟨vp,T,h1.soft g,h2⟩
theorem kr.soft {b n:Nat} (h:kr L w b n) (g:jf L w L' G):kr L' G b n:=let ⟨T,h1⟩:=h;⟨T,h1.soft g⟩
theorem lQ.soft {b n:Nat} (h:lQ L w b n) (g:jf L w L' G):lQ L' G b n:=let ⟨T,k,q,h1⟩:=h;⟨T,k,q,h1.soft g⟩
theorem iZ.soft {b n:Nat} {x:Bool} (h:iZ L w b x n) (g:jf L w L' G):iZ L' G b x n:=let ⟨v,h1,h2⟩:=h;⟨v,h1.soft g,h2.soft g⟩
theorem lS.soft {b:Nat} {l:List wG} (h:lS L w b l) (g:jf L w L' G):lS L' G b l:=let ⟨v,h1,h2⟩:=h;⟨v,h1.soft g,h2.soft g⟩
theorem lT.soft {b k:Nat} (h:lT p L w b k) (g:jf L w L' G):lT p L' G b k:=let ⟨v,h1,c0,c1,e,k0,k1⟩:=h;⟨v,h1.soft g,c0,c1,e,k0.soft g,k1.soft g⟩
theorem jX.soft {b l1 l2 l3:Nat} (h:jX p L w b l1 l2 l3) (g:jf L w L' G):jX p L' G b l1 l2 l3:=let ⟨v,h1,c0,c1,c2,c3,c4,c5,e,k0,k1,k2,k3,k4,k5⟩:=h;⟨v,h1.soft g,c0,c1,c2,c3,c4,c5,e,k0.soft g,k1.soft g,k2.soft g,k3.soft g,k4.soft g,k5.soft g⟩
theorem lU.soft {b l1 l2:Nat} (h:lU p L w b l1 l2) (g:jf L w L' G):lU p L' G b l1 l2:=let ⟨v,h1,c0,c1,c2,c3,c4,e,k0,k1,k2,k3,k4⟩:=h;⟨v,h1.soft g,c0,c1,c2,c3,c4,e,k0.soft g,k1.soft g,k2.soft g,k3.soft g,k4.soft g⟩
theorem jA.soft {v:Value} {E:Nat} {t:Ls} (h:jA p L w v E t) (g:jf L w L' G):jA p L' G v E t:=
 match t,h with
 |.get,hh=>let ⟨b0,b1,b2,b3,e,k0,k1,k2,k3⟩:=hh;⟨b0,b1,b2,b3,e,k0.soft g,k1.soft g,k2.soft g,k3.soft g⟩
 |.scan k,hh=>let ⟨b0,b1,b2,b3,b4,e,k0,k1,k2,k3,k4⟩:=hh;⟨b0,b1,b2,b3,b4,e,k0.soft g,k1.soft g,k2.soft g,k3.soft g,k4.soft g⟩
 |.change,hh=>let ⟨b0,b1,b2,b3,e,k0,k1,k2,k3⟩:=hh;⟨b0,b1,b2,b3,e,k0.soft g,k1.soft g,k2.soft g,k3.soft g⟩
 |.judge i l,hh=>let ⟨b0,b1,b2,b3,b4,e,k0,k1,k2,k3,k4⟩:=hh;⟨b0,b1,b2,b3,b4,e,k0.soft g,k1.soft g,k2.soft g,k3.soft g,k4.soft g⟩
theorem dE.soft {b:Nat} {h:dw} (hh:dE p L w b h) (g:jf L w L' G):dE p L' G b h:=let ⟨v,T,h1,h2⟩:=hh;⟨v,T,h1.soft g,h2.soft g⟩
theorem fT.soft {b:Nat} {h:dw} (hh:fT p L w b h) (g:jf L w L' G):fT p L' G b h:=let ⟨v,h1,h2⟩:=hh;⟨v,h1.soft g,h2.soft g⟩
theorem lL.soft {v:Value} {k:K} (h:lL p L w v k) (g:jf L w L' G):lL p L' G v k:=
 match k,h with
 |.start _,⟨bh,e,h1⟩=>⟨bh,e,h1.soft g⟩
 |.fin r,hh=>let ⟨b0,b1,b2,e,k0,k1,k2⟩:=hh;⟨b0,b1,b2,e,k0.soft g,k1.soft g,k2.soft g⟩
 |.visit h F,hh=>let ⟨b0,b1,e,k0,k1⟩:=hh;⟨b0,b1,e,k0.soft g,k1.soft g⟩
 |.older h F,hh=>let ⟨b0,b1,e,k0,k1⟩:=hh;⟨b0,b1,e,k0.soft g,k1.soft g⟩
 |.maker h F id,hh=>let ⟨b0,b1,b2,e,k0,k1,k2⟩:=hh;⟨b0,b1,b2,e,k0.soft g,k1.soft g,k2.soft g⟩
 |.ended h F mb,hh=>let ⟨b0,b1,b2,e,k0,k1,k2⟩:=hh;⟨b0,b1,b2,e,k0.soft g,k1.soft g,k2.soft g⟩
 |.eY h F mb id,hh=>let ⟨b0,b1,b2,b3,e,k0,k1,k2,k3⟩:=hh;⟨b0,b1,b2,b3,e,k0.soft g,k1.soft g,k2.soft g,k3.soft g⟩
 |.seen h F mb,hh=>let ⟨b0,b1,b2,e,k0,k1,k2⟩:=hh;⟨b0,b1,b2,e,k0.soft g,k1.soft g,k2.soft g⟩
 |.again ax,hh=>let ⟨b0,b1,b2,b3,e,k0,k1,k2,k3⟩:=hh;⟨b0,b1,b2,b3,e,k0.soft g,k1.soft g,k2.soft g,k3.soft g⟩
 |.own F,hh=>let ⟨b0,b1,b2,b3,e,k0,k1,k2,k3⟩:=hh;⟨b0,b1,b2,b3,e,k0.soft g,k1.soft g,k2.soft g,k3.soft g⟩
 |.fG F H id,hh=>let ⟨b0,b1,b2,b3,b4,b5,e,k0,k1,k2,k3,k4,k5⟩:=hh;⟨b0,b1,b2,b3,b4,b5,e,k0.soft g,k1.soft g,k2.soft g,k3.soft g,k4.soft g,k5.soft g⟩
 |.claim F H,hh=>let ⟨b0,b1,b2,b3,b4,e,k0,k1,k2,k3,k4⟩:=hh;⟨b0,b1,b2,b3,b4,e,k0.soft g,k1.soft g,k2.soft g,k3.soft g,k4.soft g⟩
 |.fresh F,hh=>let ⟨b0,b1,b2,b3,e,k0,k1,k2,k3⟩:=hh;⟨b0,b1,b2,b3,e,k0.soft g,k1.soft g,k2.soft g,k3.soft g⟩
 |.next F head at_,hh=>let ⟨b0,b1,b2,b3,b4,b5,e,k0,k1,k2,k3,k4,k5⟩:=hh;⟨b0,b1,b2,b3,b4,b5,e,k0.soft g,k1.soft g,k2.soft g,k3.soft g,k4.soft g,k5.soft g⟩
 |.free F head at_,hh=>let ⟨b0,b1,b2,b3,b4,b5,e,k0,k1,k2,k3,k4,k5⟩:=hh;⟨b0,b1,b2,b3,b4,b5,e,k0.soft g,k1.soft g,k2.soft g,k3.soft g,k4.soft g,k5.soft g⟩
 |.dB F head at_ id,hh=>let ⟨b0,b1,b2,b3,b4,b5,e,k0,k1,k2,k3,k4,k5⟩:=hh;⟨b0,b1,b2,b3,b4,b5,e,k0.soft g,k1.soft g,k2.soft g,k3.soft g,k4.soft g,k5.soft g⟩
 |.dX x F head,hh=>let ⟨b0,b1,b2,b3,b4,b5,e,k0,k1,k2,k3,k4,k5⟩:=hh;⟨b0,b1,b2,b3,b4,b5,e,k0.soft g,k1.soft g,k2.soft g,k3.soft g,k4.soft g,k5.soft g⟩
 |.dM x F head,hh=>let ⟨b0,b1,b2,b3,b4,b5,e,k0,k1,k2,k3,k4,k5⟩:=hh;⟨b0,b1,b2,b3,b4,b5,e,k0.soft g,k1.soft g,k2.soft g,k3.soft g,k4.soft g,k5.soft g⟩
 |.push F head,hh=>let ⟨b0,b1,b2,b3,b4,e,k0,k1,k2,k3,k4⟩:=hh;⟨b0,b1,b2,b3,b4,e,k0.soft g,k1.soft g,k2.soft g,k3.soft g,k4.soft g⟩
 |.dC F head,hh=>let ⟨b0,b1,b2,b3,b4,e,k0,k1,k2,k3,k4⟩:=hh;⟨b0,b1,b2,b3,b4,e,k0.soft g,k1.soft g,k2.soft g,k3.soft g,k4.soft g⟩
 |.over F,hh=>let ⟨b0,b1,b2,b3,b4,e,k0,k1,k2,k3,k4⟩:=hh;⟨b0,b1,b2,b3,b4,e,k0.soft g,k1.soft g,k2.soft g,k3.soft g,k4.soft g⟩
 |.fU F head,hh=>let ⟨b0,b1,b2,b3,b4,b5,e,k0,k1,k2,k3,k4,k5⟩:=hh;⟨b0,b1,b2,b3,b4,b5,e,k0.soft g,k1.soft g,k2.soft g,k3.soft g,k4.soft g,k5.soft g⟩
 |.dI F head,hh=>let ⟨b0,b1,b2,b3,b4,b5,e,k0,k1,k2,k3,k4,k5⟩:=hh;⟨b0,b1,b2,b3,b4,b5,e,k0.soft g,k1.soft g,k2.soft g,k3.soft g,k4.soft g,k5.soft g⟩
 |.draw,hh=>let ⟨b0,b1,b2,e,k0,k1,k2⟩:=hh;⟨b0,b1,b2,e,k0.soft g,k1.soft g,k2.soft g⟩
 |.dJ H now,hh=>let ⟨b0,b1,b2,e,k0,k1,k2⟩:=hh;⟨b0,b1,b2,e,k0.soft g,k1.soft g,k2.soft g⟩
 |.turn H now,hh=>let ⟨b0,b1,b2,b3,b4,e,k0,k1,k2,k3,k4⟩:=hh;⟨b0,b1,b2,b3,b4,e,k0.soft g,k1.soft g,k2.soft g,k3.soft g,k4.soft g⟩
 |.dD,hh=>let ⟨b0,b1,b2,e,k0,k1,k2⟩:=hh;⟨b0,b1,b2,e,k0.soft g,k1.soft g,k2.soft g⟩
 |.wait i,hh=>let ⟨b0,b1,b2,b3,b4,e,k0,k1,k2,k3,k4⟩:=hh;⟨b0,b1,b2,b3,b4,e,k0.soft g,k1.soft g,k2.soft g,k3.soft g,k4.soft g⟩
 |.turns [] r,hh=>let ⟨b0,b1,b2,b3,e,k0,k1,k2,k3⟩:=hh;⟨b0,b1,b2,b3,e,k0.soft g,k1.soft g,k2.soft g,k3.soft g⟩
 |.turns (x::l) r,hh=>let ⟨b0,b1,b2,b3,b4,e,k0,k1,k2,k3,k4⟩:=hh;⟨b0,b1,b2,b3,b4,e,k0.soft g,k1.soft g,k2.soft g,k3.soft g,k4.soft g⟩
 |.bO,hh=>let ⟨b0,b1,b2,e,k0,k1,k2⟩:=hh;⟨b0,b1,b2,e,k0.soft g,k1.soft g,k2.soft g⟩
 |.abort e ay,hh=>let ⟨b0,b1,b2,b3,b4,e,k0,k1,k2,k3,k4⟩:=hh;⟨b0,b1,b2,b3,b4,e,k0.soft g,k1.soft g,k2.soft g,k3.soft g,k4.soft g⟩
end
theorem But.soft {L:cZ} {w G:World} {b:Nat} (hl:L b=some .tmp) (h:But b w G):jf L w L G:=⟨by rw[h.size];exact zr _,fun k V e=>h.block k (by rintro rfl;rw[hl] at e;cases e),fun _ _ e=>e⟩
theorem heap_setCell_same {w:World} {b:Nat} {cs:Array Value} {T:TypeId} (h:w.heap[b]? =some (.cells cs T)) (i:Nat) (v:Value):(w.setCell (J b i) v).heap[b]? =some (.cells (cs.setIfInBounds i v) T):=by
 simp only[World.setCell,Array.getElem?_modify,h];simp
theorem jC {w:World} {b:Nat} {a0 a1 a2 a3 a4 a5:Value} {T:TypeId} (h:w.heap[b]? =some (.cells #[a0,a1,a2,a3,a4,a5] T)) (v0 v1 v2 v3 v4 v5:Value):(w.setCells b 0 [v0,v1,v2,v3,v4,v5]).heap[b]? =some (.cells #[v0,v1,v2,v3,v4,v5] T):=by
 have h1:=heap_setCell_same h 0 v0;have h2:=heap_setCell_same h1 1 v1;have h3:=heap_setCell_same h2 2 v2;have h4:=heap_setCell_same h3 3 v3;have h5:=heap_setCell_same h4 4 v4;have h6:=heap_setCell_same h5 5 v5;exact h6
theorem lh {w:World} {b:Nat} {a0 a1 a2 a3 a4:Value} {T:TypeId} (h:w.heap[b]? =some (.cells #[a0,a1,a2,a3,a4] T)) (v0 v1 v2 v3 v4:Value):(w.setCells b 0 [v0,v1,v2,v3,v4]).heap[b]? =some (.cells #[v0,v1,v2,v3,v4] T):=by
 have h1:=heap_setCell_same h 0 v0;have h2:=heap_setCell_same h1 1 v1;have h3:=heap_setCell_same h2 2 v2;have h4:=heap_setCell_same h3 3 v3;have h5:=heap_setCell_same h4 4 v4;exact h5
theorem ik {w:World} {b:Nat} {cs:Array Value} {T:TypeId} (h:w.heap[b]? =some (.cells cs T)):w.there b 0 cs.size:=by
 intro j hj;rw[Nat.zero_add];refine⟨?_,by simp[World.frozen?,h]⟩;rw[cell_of_row w b j _ _ _ h];simp[hj]
theorem dP {P:Program} {fn:Func} {p u:Tmp} {ty:TypeId} (h:fn.results=#[.cell p ty,.tmp u]) (tmps:Array Value) (w:World) (g:Nat) (t:TypeId) (cs:Array Value) (fr:Nat×Nat) (d:TypeDesc)
 (hp:tmps.getD p undef=R g 0) (hg:w.heap[g]? =some (.cells cs t fr))
 (hu:P.underlying ty=some d) (hd:(match d with|.struct _|.array _ _=>true|_=>false)=true) (hi:(P.info? ty).map (·.size)=some cs.size):
 (results fn tmps).run P w=.ok (.tuple #[.agg cs,tmps.getD u undef]) w:=by
 rw[results_cell_tmp h,hp];simp[asAddr,run_loadVar_row w g t ty cs fr d hg hu hd hi,Result.andThen]
theorem Ch (w:World) (re rv ro rr:Int) (a:Option Addr) (cap:Nat):
 zk 53 #[.agg #[I re,I rv,.slice a 0 cap,I ro,I rr]] w fun e G=>e=.returned (.agg #[I re,I rv,.slice none 0 0,I ro,I rr])∧Below w.heap.size w G:=by
 have Z:Below w.heap.size w (((w.alloc (.cells #[I re,I rv,.slice none 0 0,I ro,I rr] 46))).alloc (.cells #[I re,I rv,.slice none 0 0,I ro,I rr] 46)):=(((Below.refl _ _).alloc (zr _) _)).alloc (by simp) _;have HB:=U Z;clear Z
 cases a with
 |none=>
  go_enter Tryz.func53,Tryz.ntmps53;go_wp2
  (try simp only[Exit.inBlock,Exit.then])
  refine bodyPost_ret (results_cell_row rfl _ _ (w.heap.size+1) 46 #[I re,I rv,.slice none 0 0,I ro,I rr] _ _ rfl (heap_alloc2_new w _ _) Tryz.underlying46 rfl (by kernel_rfl)) rfl ?_;exact⟨rfl,HB.out⟩
 |some x=>
  go_enter Tryz.func53,Tryz.ntmps53;go_wp2
  (try simp only[Exit.inBlock,Exit.then])
  refine bodyPost_ret (results_cell_row rfl _ _ (w.heap.size+1) 46 #[I re,I rv,.slice none 0 0,I ro,I rr] _ _ rfl (heap_alloc2_new w _ _) Tryz.underlying46 rfl (by kernel_rfl)) rfl ?_;exact⟨rfl,HB.out⟩
variable {A:au} {D:St} {w:World}
theorem jA.enter {p:KP} {L:cZ} {w:World} {v:Value} {E:Nat} {t:Ls} (h:jA p L w v E t):∃ f c,v=.func (.func f) #[] c∧∀ args w,(callFunc f args).run Tryz.prog w=.ok (.enter f args) w:=by
 cases t
 . obtain⟨b0,b1,b2,b3,e,_⟩:=h;exact⟨_,_,e,fun args w=>by kernel_rfl⟩
 . obtain⟨b0,b1,b2,b3,b4,e,_⟩:=h;exact⟨_,_,e,fun args w=>by kernel_rfl⟩
 . obtain⟨b0,b1,b2,b3,e,_⟩:=h;exact⟨_,_,e,fun args w=>by kernel_rfl⟩
 . obtain⟨b0,b1,b2,b3,b4,e,_⟩:=h;exact⟨_,_,e,fun args w=>by kernel_rfl⟩
def Gi (A:au) (w:World) (D:St) (s:Nat) (hu:dw) (F:Nat):Prop:=∀ H f c,aD A D H->Grow A.L w A.L H->jA (kp A D s) A.L H (.func (.func f) #[] c) hu.E hu.thn->zk f (#[zu F]++c) H (aZ A H s (D.thn s hu F))
theorem wP (hR:aD A D w) (s:Nat) (bh:Nat) (hu:dw) (hh:dE (kp A D s) A.L w bh hu) (F:Nat) (HT:F=0->Gi A w D s hu 0):
 zk 162 #[R bh 0,zu F] w (aZ A w s (D.visit s hu F)):=by
 obtain⟨r1,g1,f0,f1⟩:=kL hR #[R bh 0] 246 #[zu F] 25;have c0:=f0.cell 0 (v:=R bh 0) rfl;have c1:=f1.cell 0 (v:=zu F) rfl;have qA:=hh.grow g1
 by_cases h0:F=0
 . have e0:D.visit s hu F=D.thn s hu 0:=by unfold St.visit;rw[aV h0]
   rw[e0];obtain⟨vt,TT,fh,hth⟩:=qA;obtain⟨fv,cv,rfl,hent⟩:=hth.enter;have d1:((F:Int)==0)=true:=by simpa using h0
   have d3:((F:Int)=0)=True:=by simpa using h0
   have h4:=fh.cell 4 (v:=.func (.func fv) #[] cv) rfl;have hf:=HT h0 _ fv cv r1 g1 hth;have HF:=U (zA hf g1);clear hR hh r1 g1 f0 f1 fh hth hf HT h0 e0;go_enter Tryz.func162,Tryz.ntmps162;go_wp2_with fail;refine HF.out.1.mono ?_;rintro e w3 ⟨A',v,rfl,q1,q2,q3,q4⟩;go_wp2_with fail;go_ret;exact⟨A',v,rfl,q1,HF.out.2.trans q2,q3,q4⟩
 . have e0:D.visit s hu F=(D,.visit hu F):=by unfold St.visit;rw[aX h0]
   rw[e0];have d1:((F:Int)==0)=false:=by simpa using h0
   have d3:((F:Int)=0)=False:=by simpa using h0
   have HQ:=U (zA r1 (zA g1 (zA f0 (zA f1 qA))));clear hR hh r1 g1 f0 f1 qA HT h0 e0;go_enter Tryz.func162,Tryz.ntmps162;go_wp2_with fail;go_ret;obtain⟨r1,g1,f0,f1,qA⟩:=HQ.out;exact⟨A,_,rfl,r1,g1,bL.refl _ _,_,_,rfl,⟨_,f0.box,qA⟩,f1.box⟩
theorem Jo (hR:aD A D w) (s:Nat) (hu:dw) (bh:Nat) (hh:dE (kp A D s) A.L w bh hu) (V:hu.E<64) (aQ:D.count<4000000000000000000) (HT:D.word (9+hu.E)=0->∀ H,aD A D.tick H->Grow A.L w A.L H->Gi A H D.tick s hu 0):
 zk 142 #[R bh 0] w (jO A w s (D.run s (.start hu))):=by
 have hh0:=hh;obtain⟨vt,TT,fh,hth⟩:=hh;have h0:=fh.cell 0 (v:=R A.Y 0) rfl;have h2:=fh.cell 2 (v:=I hu.E) rfl;have e2:=hR.z2;have n1:IntKind.i64.wrap (9+(hu.E:Int))=9+(hu.E:Int):=by rw[jH];omega
 have HL:=U (oz hR.drew (9+hu.E) (9+(hu.E:Int)) (by omega) (by rw[hR.nw];omega) aQ);have HG:=zG A.L w;have HK:Hid (∀ G,Kp A w G->zS G bh 0 A.Y 0∧zT G bh 2 hu.E∧zS G A.Y 2 A.ba 0):=fun G k=>⟨k.fix _ _ _ fh.1 h0,k.fix _ _ _ fh.1 h2,k.ea⟩
 have HB:Hid (∀ H,aD A D.tick H->Grow A.L w A.L H->zk 162 #[R bh 0,zu (D.word (9+hu.E):Int)] H (aZ A H s (D.tick.visit s hu (D.word (9+hu.E))))):=
  fun H r g=>wP r s bh hu (hh0.grow g) _ fun hz=>HT hz H r g
 have aN:D.run s (.start hu)=((D.tick.visit s hu (D.word (9+hu.E))).1,some (D.tick.visit s hu (D.word (9+hu.E))).2):=rfl;rw[aN];clear hR hh0 fh hth V aQ HT aN;generalize D.tick.visit s hu (D.word (9+hu.E))=res at*;generalize D.word (9+hu.E)=hd at*;generalize hu.E=E at*;go_enter Tryz.func142,Tryz.ntmps142;go_wp2_with fail
 go_region_held3 (fun G=>zS G bh 0 A.Y 0∧zT G bh 2 E∧zS G A.Y 2 A.ba 0)
  (first|exact⟨h0,h2,e2⟩|assumption|exact HK.out _ (Kp.of (by assumption) (by assumption) (by assumption)))
  (first|(go_at_call 42;refine HL.out.mono ?_;rintro e H ⟨rfl,q1,q2⟩;have q4:=HG.out.trans q2;have q3:=bL.refl A s;clear q2)|(go_at_call 162;refine (HB.out _ (by assumption) (by assumption)).mono ?_;rintro e w2 ⟨A',v,rfl,p1,p2,p3,p4⟩;have p5:=(‹Grow A.L w A.L _›).trans p2))
 go_wp2_with fail;go_ret;exact⟨A',_,rfl,p1,p5,p3,p4⟩
end Go.Proofs.YthicolbbmjfkfaaGreat.Em
namespace Go.Proofs.YthicolbbmjfkfaaGreat.Em
open Go.ChangeMaps Go.ChangeShapes Go.WideShapes Go.ChangeAt Go.RowKit En
theorem Ci {A:au} {w:World} {s:Nat} {t:bB} (Z:w.heap[A.bm s]? =some (.map (fV A s t).toArray t.cells.length)) (E b:Nat) (hx:t.cell E=none):
 (Instr.mapUpdate 116 (.map (some (A.bm s))) (I E) (ptr b)).run Tryz.prog w=.ok () (setBlock w (A.bm s) (.map (fV A s t++[(⟨i64 E,ptr b,t.cells.length⟩:MapEntry)]).toArray (t.cells.length+1))):=by
 have hck:∀ e,(Instr.checkKey e 10000 3 (I E)).run Tryz.prog w=.ok () w:=by
  intro e;unfold Instr.checkKey;simp[run_underlying Tryz.underlying3]
 rw[wL] at Z ⊢
 rcases nZ (A.bx s) E (t.cells.reverse.zipIdx.map fun p=>(p.1.1,p.2)) 0 with ⟨h1,h2⟩|⟨j,h1,h2⟩
 . clear h2 hx
   generalize (t.cells.reverse.zipIdx.map fun p=>(p.1.1,p.2)).map (Jc (A.bx s))=es at*;simp[Instr.mapUpdate,run_underlying Tryz.underlying116,run_underlying Tryz.underlying3,MapKept.run_getObj_map Z,hck,Instr.findKey,h1,MapKept.run_setObj_map _ Z,Result.andThen,setBlock]
 . have h3:=(q9 t E).1 h2
   rw[hx] at h3
   cases h3
theorem vV {P:Program} {w G:World} {ops:Array Oper} {rest:List Oper} {o:Oper} {a:Act} {Q:Exit->Act->World->Prop}
 (hg:o.guard=none) (m x v:Operand) (t:TypeId) (hop:o.op=Op.mapUpdate t m x v) (aN:(Instr.mapUpdate t (a.eval m) (a.eval x) (a.eval v)).run P w=.ok () G)
 (hK:wpList P ops Q rest (a.put o.dst undef) G):wpList P ops Q (o::rest) a w:=by
 refine wpList_plain hg fun K' hK'=>?_
 unfold Oper.wp;simp[execOp,hop,aN,Result.andThen];exact hK' _ _ hK
theorem ui {w:World} {b:Nat} {es:Array MapEntry} {clock:Nat} (Z:w.heap[b]? =some (.map es clock)) (o:Obj):w.grownBy (setBlock w b o) (some b):=
 ⟨rfl,rfl,rfl,by simp[setBlock],fun i _ hi=>heap_setBlock_other Z _ (fun e=>hi (by rw[e]))⟩
def LP (A:au) (w:World) (s E:Nat) (bE:St):Ending->World->Prop:=fun e G=>∃ b,e=.returned (ptr b)∧∃ A',aD A' bE G∧Grow A.L w A'.L G∧bL A A' s∧A'.bx s E=b∧A'.aR=A.aR
theorem uj {A:au} {D:St} {w:World} (hR:aD A D w) (s:Nat) (t:bB) (ht:D.ag.getD s none=some t) (E old:Nat) (hx:t.cell E=none) (V:t.keys.length<1000000):
 zk 177 #[R (A.bt s) 0,I E,zu old] w (LP A w s E (D.bF s E ⟨0,old,false⟩)):=by
 have Z:=hR.map ht;generalize Ot:w.alloc (.cells #[zu 0,zu old,.bool false] 225)=wa;have hbl:Below w.heap.size w wa:=by rw[<-Ot];exact (Below.refl _ _).alloc (zr _) _
 have hblk:wa.heap[w.heap.size]? =some (.cells (qf ⟨0,old,false⟩).toArray 225):=by rw[<-Ot];exact heap_alloc_new w _
 have ra:=hR.below hbl;have t7:=ra.dZ ht 7 (v:=.map (some (A.bm s))) rfl;have hb1:=ra.map ht;have hup:=Ci hb1 E w.heap.size hx;generalize hwb:setBlock wa (A.bm s) (.map (fV A s t++[(⟨i64 E,ptr w.heap.size,t.cells.length⟩:MapEntry)]).toArray (t.cells.length+1))=wb at hup;obtain⟨rb,gb⟩:=hR.je hbl ht hx (zr _) ⟨0,old,false⟩ hblk (w2:=wb) (by rw[<-hwb];exact ui hb1 _) (by rw[<-hwb];exact heap_setBlock_same hb1 _) (by rw[<-hwb];simp[setBlock]);have ht2:(D.bq s {t with cells:=(E,⟨0,old,false⟩)::t.cells}).ag.getD s none=some {t with cells:=(E,⟨0,old,false⟩)::t.cells}:=by rw[cO (cz ht),aV rfl]
 have t6:wb.cell? (J (A.bt s) 6)=some (A.dR s):=rb.dZ ht2 6 rfl;have z6:=rb.tH ht2 6;have rc:=rb.alloc (.cells #[I E] 3);have aS:=(rc.mem.all (.keys s))
 rw[mem_keys ht2] at aS;have ho:(wb.alloc (.cells #[I E] 3)).ownsRow 0 3 1 (A.dR s) t.keys.length (t.keys.map i64):=aS.1;obtain⟨av,iJ,hv,_⟩:=Ow.bD ho;have e:D.bF s E ⟨0,old,false⟩=(D.bq s {t with cells:=(E,⟨0,old,false⟩)::t.cells}).bq s {t with cells:=(E,⟨0,old,false⟩)::t.cells,keys:=t.keys++[E]}:=by
  unfold St.bF St.bq;rw[bQ ht];simp
 rw[e]
 have FN : Hid (∀ v' w2, w2.ownsRow 0 3 1 v' (t.keys.length + 1) (t.keys.map i64 ++ [I (E : Int)]) -> (wb.alloc (.cells #[I (E : Int)] 3)).grownBy w2 (A.dR s).ownBlock -> (v'.ownBlock = (A.dR s).ownBlock ∨ ∀ g, v'.ownBlock = some g -> (wb.alloc (.cells #[I (E : Int)] 3)).heap.size <= g) ->
     (∃ A',aD A' ((D.bq s {t with cells:=(E,⟨0,old,false⟩)::t.cells}).bq s {t with cells:=(E,⟨0,old,false⟩)::t.cells,keys:=t.keys++[E]}) (w2.setCell (J (A.bt s) 6) v')∧Grow A.L w A'.L (w2.setCell (J (A.bt s) 6) v')∧bL A A' s∧A'.bx s E=w.heap.size∧A'.aR=A.aR)∧w2.cell? (J (A.bt s) 6)=some (A.dR s)∧w2.frozen? (J (A.bt s) 6)=false):=by
  intro v' w2 q1 q2 q3;obtain⟨k1,k2,k3,k4⟩:=rc.Lu ht2 (t.keys++[E]) v' q2 (by simpa using q1) q3;refine⟨⟨_,k1,(gb.trans (Grow.alloc _ _ _)).trans k2,⟨rfl,rfl,rfl,rfl,rfl,rfl,rfl,rfl,rfl,rfl,rfl,fun k hk'=>?_,fun _ _=>rfl⟩,?_,rfl⟩,k3,k4⟩
  . funext j
    show (if k=s∧j=E then w.heap.size else A.bx k j)=A.bx k j;rw[aX (fun h=>hk' h.1)]
  . show (if s=s∧E=E then w.heap.size else A.bx s E)=w.heap.size
    rw[aV ⟨rfl,rfl⟩]
 have SN:=U hup;rw[<-Ot] at SN t7;rw[hv] at t6 ho FN;have HO:=U ho;have Vz:wb.frozen? (J (A.bt s) 6)=false:=z6;have HZ:=U (show wb.heap.size=w.heap.size+1 by rw[<-hwb,<-Ot];simp[setBlock]);clear hR ht Z hbl hblk ra hb1 hup rb gb ht2 rc aS ho e hwb Ot hx z6;generalize hn:t.keys.length=n at*;have HN:=U V;clear V hn;obtain⟨ii,hii,hz0,hz1,hz2⟩:=info_parts zP;go_enter Tryz.func177,Tryz.ntmps177;go_wp2_with (first|(refine vV rfl (.tmp 14) (.tmp 15) (.tmp 16) 116 rfl SN.out ?_)|(refine Ow.dH _ rfl (.tmp 21) (.tmp 23) 36 rfl 0 _ ii _ 1 8 Tryz.underlying36 hii hz0 hz1 hz2 rfl (by decide) (.slice av n iJ) n (t.keys.map i64) rfl HO.out (J wb.heap.size 0) 1 1 (by omega) [I E] rfl rfl (by intro j' u hu;exact Ow.iF _ [I E] _ _ rfl j' u hu) (by intro u hu;obtain rfl:=List.mem_singleton.1 hu;rfl) (by have:=HN.out;unfold maxLen;omega) (by have:=HN.out;omega) (zz _) ?_;intro v' w4 q1 q2 q3;obtain⟨k1,k2,k3⟩:=FN.out v' w4 q1 q2 q3;obtain⟨a4,cap4,rfl,_⟩:=Ow.bD q1;have K1:=U k1;clear k1 q1 q2 q3));go_ret;exact⟨_,rfl,K1.out⟩
end Go.Proofs.YthicolbbmjfkfaaGreat.Em
namespace Go.Proofs.YthicolbbmjfkfaaGreat.Em
open Go.ChangeShapes Go.WideShapes Go.ChangeAt Go.RowKit En
variable {A:au} {D:St} {w:World}
theorem uk (hR:aD A D w) (s:Nat) (c:dF) (hc:D.calls.getD s none=some c) (r:ic) (a:Option Addr) (pn pc:Nat) (vp:Value) (hvp:vp=.slice a pn pc)
 (hp:(vp=A.aR s∧r.aB=c.r.aB)∨(vp=.slice none 0 0∧r.aB=[])):
 zk 141 #[R A.Y 0,R (A.bc s) 0,.agg #[I r.e,I r.value,vp,I r.over,I r.ay]] w (jO A w s (D.finish s r,none)):=by
 obtain⟨r1,g1,f0⟩:=cB hR #[I r.e,I r.value,vp,I r.over,I r.ay] 46;obtain⟨r2,g2⟩:=r1.Lv hc r vp hp;have hc2:(D.aF s {c with r:=r}).calls.getD s none=some {c with r:=r}:=by rw[bS (bH hc),aV rfl]
 obtain⟨r3,g3⟩:=r2.qg hc2 {c with r:=r,over:=true} 11 (.bool true) rfl rfl;have c11:=r2.call hc2 11 (v:=.bool c.over) rfl;have Jp:=r2.nT hc2 11;have ht:(w.alloc (.cells #[I r.e,I r.value,vp,I r.over,I r.ay] 46)).there (A.bc s) 5 5:=by
  intro j hj;refine⟨?_,r1.nT hc _⟩
  match j,hj with
  |0,_=>rw[r1.call hc 5 rfl];rfl
  |1,_=>rw[r1.call hc 6 rfl];rfl
  |2,_=>rw[r1.call hc 7 rfl];rfl
  |3,_=>rw[r1.call hc 8 rfl];rfl
  |4,_=>rw[r1.call hc 9 rfl];rfl
 have b0:=f0.cell 0 (v:=I r.e) rfl;have b1:=f0.cell 1 (v:=I r.value) rfl;have b2:=f0.cell 2 (v:=vp) rfl;have b3:=f0.cell 3 (v:=I r.over) rfl;have b4:=f0.cell 4 (v:=I r.ay) rfl;have e:D.finish s r=(D.aF s {c with r:=r}).aF s {c with r:=r,over:=true}:=by
  unfold St.finish St.aF;rw[aU hc];simp
 rw[e];have HR:Hid (∀ ws,ws=(w.alloc (.cells #[I r.e,I r.value,vp,I r.over,I r.ay] 46)).setCells (A.bc s) 5 [I r.e,I r.value,vp,I r.over,I r.ay]->zB ws (A.bc s) 11 c.over∧ws.frozen? (J (A.bc s) 11)=false∧aD (A.qp s vp) ((D.aF s {c with r:=r}).aF s {c with r:=r,over:=true}) (ws.setCell (J (A.bc s) 11) (.bool true))∧Grow A.L w A.L (ws.setCell (J (A.bc s) 11) (.bool true))):=by
  rintro ws rfl;exact⟨c11,Jp,r3,(g1.trans g2).trans g3⟩
 have HT:=U ht;clear hR hc r1 g1 f0 r2 g2 hc2 r3 g3 ht e hp c11 Jp;subst hvp;go_enter Tryz.func141,Tryz.ntmps141;go_wp2_with (refine wpList_store_mid rfl 46 (.tmp 10) (.tmp 8) rfl (A.bc s) 5 #[I r.e,I r.value,.slice a pn pc,I r.over,I r.ay] rfl rfl HT.out (by kernel_rfl) (by simp[Value.oneCell']) ?_;generalize hws:World.setCells _ _ _ _=ws;obtain⟨k1,k2,k3⟩:=HR.out ws hws.symm;have HK:=U k3;clear k3 hws);go_ret;exact⟨_,_,rfl,HK.out.1,HK.out.2,⟨rfl,rfl,rfl,rfl,rfl,rfl,rfl,rfl,rfl,rfl,rfl,fun _ _=>rfl,fun k V=>bz _ _ V⟩,rfl⟩
theorem Ou (hR:aD A D w) (s:Nat) (c:dF) (hc:D.calls.getD s none=some c) (r:ic) (b0 b1 b2:Nat) (B0:aK A.L w b0 (R A.Y 0)) (B1:aK A.L w b1 (R (A.bc s) 0)) (B2:kG (kp A D s) A.L w b2 r):
 zk 140 #[R b0 0,R b1 0,R b2 0] w (jO A w s (D.run s (.fin r))):=by
 obtain⟨vp,TT,F2,hp⟩:=B2;have hps:(kp A D s).ps=c.r.aB:=by show (D.c s).r.aB=_;rw[aU hc]
 rw[hps] at hp;have hform:∃ a n cap,vp=.slice a n cap:=by
  rcases hp with ⟨h1,_⟩|⟨h1,_⟩
  . have aS:=hR.mem.all (.aB s)
    rw[gL hc] at aS;obtain⟨a,cap,h2,_⟩:=Ow.bD aS.1;exact⟨a,_,cap,h1.trans h2⟩
  . exact⟨none,0,0,h1⟩
 obtain⟨a,pn,pc,hvp⟩:=hform;have HF:=U (uk hR s c hc r a pn pc vp hvp hp);have c0:=B0.cell;have c1:=B1.cell;have d0:=F2.cell 0 (v:=I r.e) rfl;have d1:=F2.cell 1 (v:=I r.value) rfl;have d2:=F2.cell 2 (v:=vp) rfl;have d3:=F2.cell 3 (v:=I r.over) rfl;have d4:=F2.cell 4 (v:=I r.ay) rfl;clear hR hc B0 B1 F2 hp hps;subst hvp;go_enter Tryz.func140,Tryz.ntmps140;go_wp2_with (go_at_call 141;refine HF.out.mono ?_;rintro e w2 ⟨A2,v,rfl,p1,p2,p3,rfl⟩);go_ret;exact⟨A2,_,rfl,p1,p2,p3,rfl⟩
theorem LQ:(Tryz.prog.info? 152).map (fun i=>(i.zero,i.size,i.bytes))=some (some (.agg #[I 0,I 0]),2,16):=by kernel_rfl
theorem um:∀ (l:List (Nat×Nat)),∀ u∈bI l,u.oneCell'=true
 |[],u,h=>by cases h
 |p::l,u,h=>by
  have e:bI (p::l)=I p.1::I p.2::bI l:=rfl;rw[e] at h
  rcases List.mem_cons.1 h with rfl|h
  . rfl
  . rcases List.mem_cons.1 h with rfl|h
    . rfl
    . exact um l u h
theorem yj {w G:World} {base:Nat} {v:Value} {n b:Nat} {xs:List Value} {cs:Array Value} {T:TypeId} (h:w.ownsRow base 152 2 v n xs) (Z:But b w G) (hc:w.heap[b]? =some (.cells cs T)) (hT:T≠152):G.ownsRow base 152 2 v n xs:=by
 rcases h.2 with ⟨e1,e2⟩|⟨g,cap',cur,hv,hb',hg,hx1,hx2,hx3,hx4⟩
 . exact⟨h.1,.inl ⟨e1,e2⟩⟩
 . have QJ:g≠b:=by
    rintro rfl;rw[hc] at hg;simp only[Option.some.injEq,Obj.cells.injEq] at hg;exact hT hg.2.1
   exact⟨h.1,.inr ⟨g,cap',cur,hv,hb',(Z.block g QJ).trans hg,hx1,hx2,hx3,hx4⟩⟩
theorem pR (w:World) (re rv ro rr:Int) (a:Option Addr) (n cap:Nat) (ps:List (Nat×Nat)) (hr:Ow.Row w 0 2 (.slice a n cap) (bI ps)) (hn:ps.length=n) (hl:n<=1000000):
 zk 53 #[.agg #[I re,I rv,.slice a n cap,I ro,I rr]] w fun e G=>∃ a' c',e=.returned (.agg #[I re,I rv,.slice a' n c',I ro,I rr])∧G.ownsRow w.heap.size 152 2 (.slice a' n c') n (bI ps)∧Below w.heap.size w G:=by
 obtain⟨i0,hi,hz0,hz1,hz2⟩:=info_parts LQ;have HR:=U hr;have HM:=U (zA hn hl);obtain⟨W,hW⟩:∃ W,W=(w.alloc (.cells #[I re,I rv,.slice a n cap,I ro,I rr] 46)).alloc (.cells #[I 0,I 0,.slice none 0 0,I 0,I 0] 46):=⟨_,rfl⟩
 have hWs:W.heap.size=w.heap.size+1+1:=by rw[hW];simp
 have K9:Below w.heap.size w W:=by rw[hW];exact (((Below.refl _ _).alloc (zr _) _)).alloc (by simp) _
 have hW0:W.heap[w.heap.size]? =some (.cells #[I re,I rv,.slice a n cap,I ro,I rr] 46):=by rw[hW,heap_alloc_old _ _ (by simp),heap_alloc_new]
 have hW1:W.heap[w.heap.size+1]? =some (.cells #[I 0,I 0,.slice none 0 0,I 0,I 0] 46):=by
  have:=heap_alloc_new (w.alloc (.cells #[I re,I rv,.slice a n cap,I ro,I rr] 46)) (.cells #[I 0,I 0,.slice none 0 0,I 0,I 0] 46);rw[hW];simpa using this
 have HW:=U (zA hWs (zA K9 (zA hW0 (zA hW1 (hr.below K9)))));have HF:Hid (∀ v' w2,w2.ownsRow w.heap.size 152 2 v' n (bI ps)->W.grownBy w2 none->∃ a' c',v'=.slice a' n c'∧w2.heap[w.heap.size]? =some (.cells #[I re,I rv,.slice a n cap,I ro,I rr] 46)∧w2.heap[w.heap.size+1]? =some (.cells #[I 0,I 0,.slice none 0 0,I 0,I 0] 46)∧w2.cell? (J w.heap.size 2)=some (.slice a n cap)∧w2.frozen? (J w.heap.size 2)=false∧Below w.heap.size w w2):=by
  intro v' w2 q1 q2;obtain⟨a',c',rfl,_⟩:=Ow.bD q1;have h0:w2.heap[w.heap.size]? =_:=(q2.block _ (by rw[hWs];omega) (by simp)).trans hW0;have h1:w2.heap[w.heap.size+1]? =_:=(q2.block _ (by rw[hWs];omega) (by simp)).trans hW1;refine⟨a',c',rfl,h0,h1,by simp[World.cell?,h0],by simp[World.frozen?,h0],⟨q2.os.trans K9.os,q2.tape.trans K9.tape,q2.output.trans K9.output,eP K9.size q2.size,fun b Z=>(q2.block b (by rw[hWs];omega) (by simp)).trans (K9.block b Z)⟩⟩
 have Un:W.cell? (J w.heap.size 2)=some (.slice a n cap):=by simp[World.cell?,hW0]
 clear hW0 hW1 K9 hr hn hl;go_enter Tryz.func53,Tryz.ntmps53;go_upto_region 1 with fail
 rw[<-hW];clear hW;go_upto_region 2 with (refine Ow.dK W rfl (.const (.slice none 0 0)) (.tmp 4) 44 rfl w.heap.size 152 i0 _ 2 16 Tryz.underlying44 hi hz0 hz1 hz2 rfl (by decide) (.slice none 0 0) 0 [] rfl (World.ownsRow_nil _ _ _ _) 0 (.slice a n cap) (bI ps) rfl HW.out.2.2.2.2 n (by rw[jP,HM.out.1]) (um ps) (by have:=HM.out.2;unfold maxLen;omega) (by have:=HM.out.2;omega) (by rw[HW.out.1];omega) ?_;intro v' w2 q1 q2;rw[List.nil_append,Nat.zero_add] at q1;obtain⟨a',c',rfl,f0,f1,f2,f3,f4⟩:=HF.out _ _ q1 q2;have HQ:=U (zA q1 (zA f0 (zA f1 f4)));clear q1 q2 f0 f1 f4)
 generalize hw3:w2.setCell (J w.heap.size 2) (.slice a' n c')=w3 at*;obtain⟨q1,f0,f1,f4⟩:=HQ.out;have g0:w3.heap[w.heap.size]? =some (.cells #[I re,I rv,.slice a' n c',I ro,I rr] 46):=by rw[<-hw3];exact heap_setCell_same f0 2 _
 have g1:w3.heap[w.heap.size+1]? =some (.cells #[I 0,I 0,.slice none 0 0,I 0,I 0] 46):=by rw[<-hw3,Below.heap_setCell _ _ _ _ (by simp)];exact f1
 have gb:Below w.heap.size w w3:=by rw[<-hw3];exact⟨f4.os,f4.tape,f4.output,by simpa [World.setCell] using f4.size,fun b Z=>(Below.heap_setCell _ _ _ _ (by rintro rfl;simp at Z)).trans (f4.block b Z)⟩
 have go:w3.ownsRow w.heap.size 152 2 (.slice a' n c') n (bI ps):=by
  rw[<-hw3];exact yj q1 (But.setCell w2 (J w.heap.size 2) _) f0 (by decide)
 have HG:=U (zA g0 (zA (ik g1) (zA gb (zA go g1))));have y0:w3.cell? (J w.heap.size 0)=zt re:=by simp[World.cell?,g0]
 have y1:w3.cell? (J w.heap.size 1)=zt rv:=by simp[World.cell?,g0]
 have y2:w3.cell? (J w.heap.size 2)=some (.slice a' n c'):=by simp[World.cell?,g0]
 have y3:w3.cell? (J w.heap.size 3)=zt ro:=by simp[World.cell?,g0]
 have y4:w3.cell? (J w.heap.size 4)=zt rr:=by simp[World.cell?,g0]
 clear q1 f0 f1 f4 g0 g1 gb go HQ HF f2 f3 Un;go_wp2_with (refine wpList_store_mid rfl 46 (.tmp 2) (.tmp 7) rfl (w.heap.size+1) 0 #[I re,I rv,.slice a' n c',I ro,I rr] rfl rfl HG.out.2.1 (by kernel_rfl) (by simp[Value.oneCell']) ?_;generalize hws:World.setCells _ _ _ _=ws);have hfin:=lh HG.out.2.2.2.2 (I re) (I rv) (.slice a' n c') (I ro) (I rr);have dW:=But.setCells (w.heap.size+1) [I re,I rv,.slice a' n c',I ro,I rr] 0 w3;rw[show w3.setCells (w.heap.size+1) 0 [I re,I rv,.slice a' n c',I ro,I rr]=ws from hws] at dW hfin;refine bodyPost_ret (results_cell_row rfl _ _ (w.heap.size+1) 46 #[I re,I rv,.slice a' n c',I ro,I rr] _ _ rfl hfin Tryz.underlying46 rfl (by kernel_rfl)) rfl ?_;exact⟨a',c',rfl,yj HG.out.2.2.2.1 dW HG.out.2.2.2.2 (by decide),⟨dW.os.trans HG.out.2.2.1.os,dW.tape.trans HG.out.2.2.1.tape,dW.output.trans HG.out.2.2.1.output,by rw[dW.size];exact HG.out.2.2.1.size,fun b Z=>(dW.block b (by omega)).trans (HG.out.2.2.1.block b Z)⟩⟩
theorem rW {L:cZ} {w:World} {base:Nat} {a:Option Addr} {n c:Nat} {xs:List Value} (h:w.ownsRow base 152 2 (.slice a n c) n xs) (hL:∀ b,base<=b->b<w.heap.size->L b=none):jL L w (.slice a n c) xs:=by
 obtain⟨a',c',e,h1,h2,h3⟩:=Ow.bD h;obtain⟨rfl,rfl⟩:a=a'∧c=c':=by simpa using e
 refine⟨⟨a,n,c,rfl,h.1,h1,by unfold maxLen;omega,?_⟩,?_⟩
 . rcases h.2 with ⟨h0,hn⟩|⟨g,cap',cur,hv,Z,hg,hnc,hcm,hcs,htake⟩
   . exact .inl (by first|exact h0|omega)
   . obtain⟨rfl,rfl⟩:a=za g 0∧c=cap':=by simpa using hv
     refine .inr ⟨g,0,rfl,hL g (h.lt g rfl).1 (h.lt g rfl).2,(h.lt g rfl).2,fun j hj=>?_⟩;rw[Nat.zero_add];exact h.cellAt j hj
 . intro g off n' cap hv
   rcases h.2 with ⟨h0,hn⟩|⟨g',cap',cur,hv',Z,hg,hnc,hcm,hcs,htake⟩
   . obtain⟨_,rfl,_⟩:a=za g off∧n=n'∧c=cap:=by simpa using hv
     exact .inl (by first|exact h0|omega)
   . rw[hv'] at hv
     simp only[Value.slice.injEq,Option.some.injEq,Addr.mk.injEq,and_true] at hv;obtain⟨⟨rfl,_⟩,_⟩:=hv;exact .inr ⟨cur,hg⟩
theorem jL.Gj {L L':cZ} {w:World} {v:Value} {xs:List Value} (h:jL L w v xs) {b:Nat} (hL:∀ g,g≠b->L' g=L g) (Z:∀ cs,w.heap[b]? ≠some (.cells cs 152)):jL L' w v xs:=by
 obtain⟨⟨ad,n,cap,rfl,e2,e3,e4,e5⟩,h2⟩:=h;refine⟨⟨ad,n,cap,rfl,e2,e3,e4,?_⟩,h2⟩
 rcases e5 with h0|⟨g,off,rfl,e7,e8,e9⟩
 . exact .inl h0
 . rcases h2 g off n cap rfl with h0|⟨cs,hc⟩
   . exact .inl h0
   . refine .inr ⟨g,off,rfl,?_,e8,e9⟩
     rw[hL g (by rintro rfl;exact Z _ hc)];exact e7
theorem pE.Gj {L L':cZ} {w:World} {b:Nat} (hL:∀ g,g≠b->L' g=L g) (Z:∀ cs,w.heap[b]? ≠some (.cells cs 152)):∀ {l:List Ev} {xs:List Value},pE L w l xs->pE L' w l xs
 |[],_,h=>h
 |_::_,_,⟨vp,ys,h1,h2,h3⟩=>⟨vp,ys,h1,h2.Gj hL Z,pE.Gj hL Z h3⟩
theorem pE.lab {L:cZ} {w:World} {b:Nat} {cs:Array Value} {T:TypeId} {l:List Ev} {xs:List Value} (h:pE L w l xs) (he:w.heap[b]? =some (.cells cs T)) (hT:T≠152) (r:bN):pE (gU L b r) w l xs:=
 h.Gj (fun g hg=>di hg) (fun cs' hc=>by rw[he] at hc;simp at hc;exact hT hc.2)
theorem pE.LU {L:cZ} {w:World} {b:Nat} {es:Array MapEntry} {k:Nat} {l:List Ev} {xs:List Value} (h:pE L w l xs) (he:w.heap[b]? =some (.map es k)) (r:bN):pE (gU L b r) w l xs:=
 h.Gj (fun g hg=>di hg) (fun cs' hc=>by rw[he] at hc;simp at hc)
theorem aD.Aa {A:au} {D:St} {w H:World} (h:aD A D H) (g0:Grow A.L w A.L H) {s b m:Nat} (Oj:A.L b=none) (hfm:A.L m=none) (hs:s<8) (Z:w.heap.size<=b) (hm:w.heap.size<=m) (Qp:b≠m) (t:bB) (h1:t.keys=[]) (h2:t.cells=[]) (h3:t.reads=[]) (h4:t.aJ=[])
 (he:H.heap[b]? =some (.cells (dS (A.fu s b m) s t).toArray 131)) (hmap:H.heap[m]? =some (.map #[] 0)) (hn:D.ag.getD s none=none):
 aD (A.fu s b m) (D.bq s t) (H.setCell (J A.Y (5+s)) (R b 0))∧Grow A.L w (A.fu s b m).L (H.setCell (J A.Y (5+s)) (R b 0)):=by
 have hlt:b<H.heap.size:=eQ he;have QK:m<H.heap.size:=eQ hmap;have n8:=h.n8;have hn2:=hn;rw[mM] at hn2;have k1:=h.mem.Dm (.dZ s) Oj (.obj b (dS (A.fu s b m) s t) 131) ⟨gH _ _ _,he⟩ hlt;have k2:=k1.Dm (.map s) (b:=m) ((di (Ne.symm Qp)).trans hfm) (.map m [] 0) ⟨gH _ _ _,hmap⟩ QK;have hE:(gI (gI (aY A D) (.dZ s) (.obj b (dS (A.fu s b m) s t) 131)) (.map s) (.map m [] 0)) .eH=.obj A.Y (mo A D) 111:=rfl;have k3:=k2.put .eH hE (5+s) (R b 0);have g:Grow A.L w (A.fu s b m).L (H.setCell (J A.Y (5+s)) (R b 0)):=
  ((g0.gU Z _).gU hm _).trans (k2.cK hE (5+s) _)
 have k4 : Holds (A.fu s b m).L (H.setCell ⟨A.Y, 5 + s, none⟩ (R b 0)) (fun q => match q with
     |.keys k=>if k=s then .own (.slice none 0 0) 3 1 0 [] else aY A D (.keys k)
     |.reads k=>if k=s then .own (.slice none 0 0) 250 3 0 [] else aY A D (.reads k)
     |.aJ k=>if k=s then .own (.slice none 0 0) 3 1 0 [] else aY A D (.aJ k)
     |q=>gI (gI (gI (aY A D) (.dZ s) (.obj b (dS (A.fu s b m) s t) 131)) (.map s) (.map m [] 0)) .eH (.obj A.Y ((mo A D).set (5+s) (R b 0)) 111) q):=by
  refine⟨fun q=>?_,k3.fresh⟩;have k:=k3.all q
  cases q<;>first|exact k|skip
  all_goals
   rename_i j
   by_cases hj:j=s
   . subst hj
     simp only[aV];exact⟨World.ownsRow_nil _ 0 _ _,fun g hg=>by cases hg⟩
   . simp only[aX hj]
     simp[gI] at k;exact k
 refine⟨⟨k4.of_eq fun q=>?_,((h.ev.lab he (by decide) (.dZ s)).LU hmap (.map s)).grow (k2.cK hE (5+s) _),h.sl,h.nw,h.nt,h.nv,by simpa [St.bq] using h.n8,h.nc⟩,g⟩;have gt:∀ k,(D.bq s t).ag.getD k none=if k=s then some t else D.ag.getD k none:=fun k=>cO (by omega) t k
 have tp:∀ k,(A.fu s b m).tp (D.bq s t) k=if k=s then .pointer (some (J b 0)) else A.tp D k:=by
  intro k;unfold au.tp;rw[gt];by_cases V:k=s
  . subst V;simp[au.fu]
  . simp[V,au.fu]
 cases hq:q.tx with
 |none=>
  cases q<;>first|rfl|(simp[bN.tx] at hq;done)|skip
  simp only[gI,aV,aY,mo,tp]
  match s,hs with
  |0,_|1,_|2,_|3,_|4,_|5,_|6,_|7,_=>rfl
 |some k=>
  rw[gK _ _ hq,gt]
  by_cases V:k=s
  . subst V
    rw[aV rfl]
    cases q<;>simp[bN.tx] at hq<;>subst hq<;>simp[fP,gI,au.fu,jI,h1,h2,h3,h4,fV,jc,bB.cell,aY,hn2]
  . rw[aX V,<-gK _ D hq]
    have:=kQ (A:=A) (A':={A.fu s b m with bt:=A.bt}) (s:=s) ⟨rfl,rfl,rfl,rfl,rfl,rfl,rfl,rfl,rfl,rfl,rfl,rfl,rfl,rfl,rfl,rfl,rfl,fun k V=>aX V,fun _ _=>rfl,fun k V=>bz _ _ V,fun k V=>bz _ _ V,fun k V=>bz _ _ V,fun k V=>aX V,fun k V=>aX V⟩ D (q:=q) (by rw[hq];simpa using V);have e2:aY (A.fu s b m) D q=aY {A.fu s b m with bt:=A.bt} D q:=by
     cases q<;>simp[bN.tx] at hq<;>subst hq<;>simp[aY,au.fu,V,dS,fV]
    rw[e2,this]
    cases q<;>simp[bN.tx] at hq<;>subst hq<;>simp[gI,V]
end Go.Proofs.YthicolbbmjfkfaaGreat.Em
