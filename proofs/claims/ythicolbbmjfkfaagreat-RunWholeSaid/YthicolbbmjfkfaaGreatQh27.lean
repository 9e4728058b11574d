import Derived.Test.YthicolbbmjfkfaaGreatQh23
set_option linter.unusedVariables false
set_option linter.unusedSimpArgs false
set_option maxRecDepth 100000
set_option maxHeartbeats 1600000
namespace Go.Proofs.YthicolbbmjfkfaaGreat.Em
open Go.ChangeShapes Go.WideShapes Go.ChangeAt Go.RowKit
theorem KJ (x:Int) (m:Nat) (hm:0<m):∃ n:Nat,n<m∧(bits .and .i64 x 255).tmod (m:Int)=(n:Int):=by
 rw[Bt.tO];have h0:0<=x % 256:=Int.emod_nonneg _ (by decide);have h1:=Int.tmod_nonneg (m:Int) h0;have h2:=Int.tmod_lt_of_pos (x % 256) (b:=(m:Int)) (by omega);exact⟨((x % 256).tmod m).toNat,by omega,by omega⟩
theorem oH (w:World) (xs:List Value) (T:TypeId) (n size g:Nat) (hg:g=w.heap.size) (hl:xs.length=n*size) (hn:n<=1000000):Ow.Row (w.alloc (.cells xs.toArray T)) 0 size (.slice (some (J g 0)) n n) xs:=by
 subst hg;exact Jf w xs T n size hl hn
end Go.Proofs.YthicolbbmjfkfaaGreat.Em
namespace Go.Proofs.YthicolbbmjfkfaaGreat.Em
open Go.ChangeShapes Go.WideShapes Go.ChangeAt Go.RowKit En
theorem oI (e v x y:Int) (a1 a2:Option Addr) (n c1 c2:Nat) (ps:List (Nat×Nat)) (w:World) (h1:Ow.Row w 0 2 (.slice a1 n c1) (bI ps)) (h2:Ow.Row w 0 2 (.slice a2 n c2) (bI ps)):
 zk 12 #[.agg #[I e,I v,.slice a1 n c1,I x,I y],.agg #[I e,I v,.slice a2 n c2,I x,I y]] w fun e G=>e=.returned (.bool true)∧Below w.heap.size w G:=by
 have H1:=U h1;have H2:=U h2;clear h1 h2;go_enter Tryz.func12,Tryz.ntmps12;go_wp2_with (go_at_call 52;refine (Cg _ _ ps _ _ _ (Row.alloc' (Row.alloc' H1.out _) _) (Row.alloc' (Row.alloc' H2.out _) _)).mono ?_;rintro e w9 ⟨rfl,q⟩;have HB:=U q;clear q);go_ret;refine⟨rfl,?_⟩;have Z:=HB.out;have h2:Below w.heap.size w ((w.alloc (.cells #[I e,I v,.slice a1 n c1,I x,I y] 46)).alloc (.cells #[I e,I v,.slice a2 n c2,I x,I y] 46)):=(((Below.refl _ _).alloc (zr _) _)).alloc (by simp) _;exact h2.trans (Z.mono h2.size)
structure Dl where
 id:Nat
 ak:Nat
 state:Nat
 aG:Nat
 ax:Nat
 ops:List (En.Op×ic)
 deriving Repr,DecidableEq,Inhabited
structure Wd where
 D:St
 BH:List Dl
 ids:List Nat
 ops:List En.Op
 gone:List Nat
 deriving Repr,DecidableEq,Inhabited
structure qQ where
 M:cZ
 bw:Nat
 vd:Value
 vg:Value
 ds:List (Dl×Value)
 cs:Nat->List Value
def opC (o:En.Op):List Value:=[i64 o.kind,i64 o.E,i64 o.hi,i64 o.value]
def Nb (d:Dl) (v:Value):List Value:=[i64 d.id,i64 d.ak,i64 d.state,u64 d.aG,u64 d.ax,v]
def KL (l:List (Dl×Value)):List Value:=l.flatMap fun p=>Nb p.1 p.2
def Nc (o:En.Op) (r:ic) (vp:Value):List Value:=opC o++[i64 r.e,i64 r.value,vp,i64 r.over,i64 r.ay]
def zg (Y:Nat) (B:qQ) (W:Wd):List Value:=[ptr Y,B.vd]++(W.ids.map i64++(W.ops.flatMap opC++[B.vg]))
def TN (L:cZ) (w:World):List (En.Op×ic)->List Value->Prop
 |[],cs=>cs=[]
 |p::l,cs=>∃ vp cs',cs=Nc p.1 p.2 vp++cs'∧dQ L w 2 vp (bI p.2.aB)∧TN L w l cs'
def Sn (Y:Nat) (B:qQ) (W:Wd):bN->Entry
 |.eH=>.obj B.bw (zg Y B W) 38
 |.aP=>.own B.vd 149 6 B.ds.length (KL B.ds)
 |.free=>.own B.vg 3 1 W.gone.length (W.gone.map i64)
 |.reads k=>match B.ds[k]? with|some p=>.own p.2 178 9 p.1.ops.length (B.cs k)|none=>.none
 |_=>.none
structure Sq (A:au) (W:Wd) (B:qQ) (w:World):Prop where
 tie:∀ b r,B.M b=some r->A.L b=some .tmp
 mem:Holds B.M w (Sn A.Y B W)
 cls:∀ k p,B.ds[k]? =some p->TN A.L w p.1.ops (B.cs k)
 dl:B.ds.map (·.1)=W.BH
 i8:W.ids.length=8
 o8:W.ops.length=8
theorem Kept.soft {L L':cZ} {w G:World} (g:jf L w L' G):∀ {k:Kept},(∀ b o,k=.far b o->L b=some .tmp->b<w.heap.size->L' b=some .tmp∧G.heap[b]? =w.heap[b]?)->k.holds L w->k.holds L' G
 |.obj _ _,_,h=>Fix.soft h g
 |.row _ _ _,_,h=>dQ.soft h g
 |.far b o,f,h=>let ⟨e1,e2⟩:=f b o rfl h.1 (eQ h.2);⟨e1,e2.trans h.2⟩
 |.floor _,_,h=>eP h g.size
theorem kJ.soft {L L':cZ} {w G:World} (g:jf L w L' G):∀ {ks:List Kept},(∀ b o,Kept.far b o∈ks->L b=some .tmp->b<w.heap.size->L' b=some .tmp∧G.heap[b]? =w.heap[b]?)->kJ L w ks->kJ L' G ks
 |[],_,_=>trivial
 |_::_,f,⟨h,t⟩=>⟨Kept.soft g (fun b o e=>f b o (e ▸ lJ)) h,kJ.soft g (fun b o e=>f b o (pq _ e)) t⟩
def KW (M L:cZ) (w:World) (ks:List Kept):Prop:=kJ L w ks∧∀ b o,Kept.far b o∈ks->M b=none
theorem KW.nil {M L:cZ} {w:World}:KW M L w []:=⟨trivial,fun _ _ h=>by cases h⟩
structure WK (B:qQ) (Y:Nat) (w0:World) (ks:List Kept) (W:Wd) (w:World):Prop where
 ex:∃ A:au,A.Y=Y∧Live A W.D w∧Sq A W B w∧Grow (fun _=>none) w0 A.L w∧KW B.M A.L w ks
section
variable {B:qQ} {Y:Nat} {w0 w G:World} {ks:List Kept} {W:Wd}
end
section
variable {B:qQ} {Y:Nat} {w0 w G:World} {ks:List Kept} {W:Wd}
end
section
variable {B:qQ} {Y:Nat} {w0 w G:World} {ks:List Kept} {W:Wd}
end
def au.lab (A:au) (L:cZ):au:={A with L:=L}
theorem vN (A:au) (D:St) (L:cZ) (q:bN):aY (A.lab L) D q=aY A D q:=by cases q<;>rfl
structure Off (L:cZ) (w:World) (L':cZ) (G:World):Prop where
 size:w.heap.size<=G.heap.size
 same:∀ b,b<w.heap.size->L b≠some .tmp->G.heap[b]? =w.heap[b]?
 lab:∀ b,b<w.heap.size->L' b=L b
 fresh:∀ b,G.heap.size<=b->L' b=none
section
variable {A B:au} {D τ:St} {w G:World} {L L':cZ}
theorem Off.soft (h:Off L w L' G):jf L w L' G:=⟨h.size,fun b Z e=>h.same b Z (by rw[e];simp),fun b Z e=>(h.lab b Z).trans e⟩
theorem aD.off (hR:aD A D w) (h:Off A.L w L' G):aD (A.lab L') D G:=by
 refine⟨⟨fun r=>?_,h.fresh⟩,hR.ev.soft h.soft,hR.sl,hR.nw,hR.nt,hR.nv,hR.n8,hR.nc⟩;rw[vN]
 by_cases hr:r=.tmp
 . subst hr;trivial
 . exact (hR.mem.all r).frame (fun k V hk'=>h.same k V (by rw[hk'];intro e;exact hr (zj e))) h.lab
theorem Live.off (hL:Live A D w) (h:Off A.L w L' G):Live (A.lab L') D G:=
 ⟨hL.rep.off h,hL.mp,hL.mt,fun s hs c hc=>let ⟨e1,k,e2,e3⟩:=hL.call s hs c hc;⟨e1,k,e2,(show lL (kp A D s) (A.lab L').L G (A.aW s) k from e3.soft h.soft)⟩,hL.idle,hL.sx.soft rfl h.soft⟩
end
theorem Entry.Holds.El {L L':cZ} {w:World} {r:bN} {e:Entry} (h:e.Holds L w r) (hl:∀ b,L b=some r->L' b=some r):e.Holds L' w r:=by
 cases e with
 |none=>trivial
 |obj b cs T=>exact⟨hl _ h.1,h.2⟩
 |map b es c=>exact⟨hl _ h.1,h.2⟩
 |own v e size n xs=>exact⟨h.1,fun g hg=>hl _ (h.2 g hg)⟩
theorem Live.El {B:au} {τ:St} {w:World} {L':cZ} (hL:Live B τ w) (ht:τ.aP=[]) (hc:∀ s,τ.calls.getD s none=none) (hs:τ.sw=none) (hl:∀ b q,B.L b=some q->L' b=some q) (hf:∀ b,w.heap.size<=b->L' b=none):Live (B.lab L') τ w:=by
 refine⟨⟨⟨fun r=>?_,hf⟩,?_,hL.rep.sl,hL.rep.nw,hL.rep.nt,hL.rep.nv,hL.rep.n8,hL.rep.nc⟩,hL.mp,hL.mt,fun s h c e=>(by rw[hc s] at e;cases e),hL.idle,⟨?_,hL.sx.cu⟩⟩
 . rw[vN]
   exact (hL.rep.mem.all r).El (fun b e=>hl b r e)
 . have h:=hL.rep.ev
   rw[ht] at h ⊢;exact h
 . have h:=hL.sx.sw
   rw[hs] at h ⊢;exact h
theorem Live.Eo {A:au} {D:St} {w:World} {L':cZ} (hL:Live A D w) (h1:∀ b q,A.L b=some q->q≠.tmp->L' b=some q) (h0:∀ b,A.L b=none->L' b=none) (hf:∀ b,w.heap.size<=b->L' b=none):Live (A.lab L') D w:=by
 have sf:jf A.L w (A.lab L').L w:=⟨zr _,fun _ _ _=>rfl,fun b _ e=>h0 b e⟩
 refine⟨⟨⟨fun r=>?_,hf⟩,hL.rep.ev.soft sf,hL.rep.sl,hL.rep.nw,hL.rep.nt,hL.rep.nv,hL.rep.n8,hL.rep.nc⟩,hL.mp,hL.mt,fun s hs c hc=>let ⟨e1,k,e2,e3⟩:=hL.call s hs c hc;⟨e1,k,e2,(show lL (kp A D s) (A.lab L').L w (A.aW s) k from e3.soft sf)⟩,hL.idle,hL.sx.soft rfl sf⟩;rw[vN]
 by_cases hr:r=.tmp
 . subst hr;trivial
 . exact (hL.rep.mem.all r).El (fun b e=>h1 b r e hr)
def jq (n:Nat) (M:cZ):cZ:=fun k=>if k<n then M k else match M k with|some .tmp=>none|x=>x
theorem qR {M:cZ} {n k:Nat} (h:k<n):jq n M k=M k:=aV h
theorem oJ {M:cZ} {n k:Nat} {r:bN} (e:M k=some r) (hr:r≠.tmp):jq n M k=some r:=by
 unfold jq;rw[e]
 split
 . rfl
 . cases r<;>first|rfl|exact absurd rfl hr
theorem df {M:cZ} {n k:Nat} (e:M k=none):jq n M k=none:=by unfold jq;rw[e];split<;>rfl
theorem zh {M:cZ} {n k:Nat} {r:bN} (h:n<=k) (e:jq n M k=some r):M k=some r∧r≠.tmp:=by
 unfold jq at e;rw[aX (by omega)] at e
 split at e
 . cases e
 . rename_i x
   exact⟨e,by rintro rfl;exact x e⟩
section
variable {A B:au} {D τ:St} {w G:World} {L L':cZ} {vs:List (Nat×Obj)}
structure Two (A:au) (D:St) (B:au) (τ:St) (vs:List (Nat×Obj)) (w:World):Prop where
 a:Live A D w
 b:Live B τ w
 ab:∀ k r,A.L k=some r->r≠.tmp->B.L k=some .tmp
 ba:∀ k r,B.L k=some r->r≠.tmp->A.L k=some .tmp
 at_:∀ k,A.L k=some .tmp->(∃ r,B.L k=some r∧r≠.tmp)∨∃ o,(k,o)∈vs
 bt:∀ k,B.L k=some .tmp->(∃ r,A.L k=some r∧r≠.tmp)∨∃ o,(k,o)∈vs
 vr:∀ k o,(k,o)∈vs->A.L k=some .tmp∧B.L k=some .tmp∧w.heap[k]? =some o
theorem Two.symm (h:Two A D B τ vs w):Two B τ A D vs w:=⟨h.b,h.a,h.ba,h.ab,h.bt,h.at_,fun k o hm=>⟨(h.vr k o hm).2.1,(h.vr k o hm).1,(h.vr k o hm).2.2⟩⟩
theorem Two.none (h:Two A D B τ vs w) {k:Nat} (e:A.L k=none):B.L k=none:=by
 cases e2:B.L k with
 |none=>rfl
 |some r=>
  by_cases hr:r=.tmp
  . subst hr
    rcases h.bt k e2 with ⟨q,e3,_⟩|⟨o,ho⟩
    . rw[e] at e3;cases e3
    . have:=(h.vr k o ho).1;rw[e] at this;cases this
  . have:=h.ba k r e2 hr
    rw[e] at this;cases this
def aside (L:cZ) (n:Nat) (M:cZ):cZ:=fun k=>if k<n then L k else match M k with|some .tmp=>none|some _=>some .tmp|none=>none
theorem fO {M:cZ} {n k:Nat} (h:k<n):aside L n M k=L k:=aV h
theorem lI {M:cZ} {n k:Nat} (h:n<=k):aside L n M k=match M k with|some .tmp=>none|some _=>some .tmp|none=>none:=aX (by omega)
theorem xR {M:cZ} {n k:Nat} {r:bN} (h:n<=k) (e:M k=some r) (hr:r≠.tmp):aside L n M k=some .tmp:=by
 rw[lI h,e]
 cases r<;>first|rfl|exact absurd rfl hr
theorem xS {M:cZ} {n k:Nat} {r:bN} (h:n<=k) (e:aside L n M k=some r):r=.tmp:=by
 rw[lI h] at e
 split at e
 . cases e
 . exact (zj e).symm
 . cases e
theorem Two.off (h:Two A D B τ vs w) {A':au} {bE:St} (hL:Live A' bE G) (g:Grow A.L w A'.L G):Off B.L w (aside B.L w.heap.size A'.L) G:=by
 refine⟨g.size,fun b Z hn=>?_,fun b Z=>fO Z,fun b Z=>?_⟩
 . cases e:A.L b with
   |none=>exact g.block b Z e
   |some r=>
    by_cases hr:r=.tmp
    . subst hr;exact g.keep b Z e
    . exact absurd (h.ab b r e hr) hn
 . have hb':w.heap.size<=b:=eP g.size Z
   rw[lI hb',hL.rep.mem.fresh b Z]
theorem Two.left (h:Two A D B τ vs w) {A':au} {bE:St} (hL:Live A' bE G) (g:Grow A.L w A'.L G):Two (A'.lab (jq w.heap.size A'.L)) bE (B.lab (aside B.L w.heap.size A'.L)) τ vs G:=by
 have hf:=hL.rep.mem.fresh;refine⟨hL.Eo (fun b q e hq=>oJ e hq) (fun b e=>df e) (fun b Z=>df (hf b Z)),h.b.off (h.off hL g),fun k r e hr=>?_,fun k r e hr=>?_,fun k e=>?_,fun k e=>?_,fun k o hm=>?_⟩
 . change jq w.heap.size A'.L k=some r at e
   show aside B.L w.heap.size A'.L k=some .tmp
   by_cases V:k<w.heap.size
   . rw[qR V,g.lab k V] at e
     rw[fO V];exact h.ab k r e hr
   . exact xR (by omega) (zh (by omega) e).1 hr
 . change aside B.L w.heap.size A'.L k=some r at e
   show jq w.heap.size A'.L k=some .tmp
   by_cases V:k<w.heap.size
   . rw[fO V] at e
     rw[qR V,g.lab k V];exact h.ba k r e hr
   . exact absurd (xS (by omega) e) hr
 . change jq w.heap.size A'.L k=some .tmp at e
   show (∃ r,aside B.L w.heap.size A'.L k=some r∧r≠.tmp)∨_
   by_cases V:k<w.heap.size
   . rw[qR V,g.lab k V] at e
     rw[fO V];exact h.at_ k e
   . exact absurd rfl (zh (by omega) e).2
 . change aside B.L w.heap.size A'.L k=some .tmp at e
   show (∃ r,jq w.heap.size A'.L k=some r∧r≠.tmp)∨_
   by_cases V:k<w.heap.size
   . rw[fO V] at e
     rw[qR V,g.lab k V];exact h.bt k e
   . rw[lI (by omega)] at e
     split at e
     . cases e
     . rename_i r hr e2
       exact .inl ⟨r,oJ e2 (fun e3=>hr e3),fun e3=>hr e3⟩
     . cases e
 . obtain⟨e1,e2,e3⟩:=h.vr k o hm
   have V:=eQ e3;exact⟨(qR V).trans ((g.lab k V).trans e1),(fO V).trans e2,(g.keep k V e1).trans e3⟩
theorem Two.below (h:Two A D B τ vs w) (Z:Below w.heap.size w G):Two A D B τ vs G:=⟨h.a.below Z,h.b.below Z,h.ab,h.ba,h.at_,h.bt,fun k o hm=>let ⟨e1,e2,e3⟩:=h.vr k o hm;⟨e1,e2,(Z.block k (eQ e3)).trans e3⟩⟩
end
def KN (L:cZ) (w:World) (ks:List Kept):Prop:=kJ L w ks∧∀ b o,Kept.far b o ∉ ks
theorem KN.grow {L L':cZ} {w G:World} {ks:List Kept} (g:Grow L w L' G) (h:KN L w ks):KN L' G ks:=⟨kJ.grow g h.1,h.2⟩
theorem KN.soft {L L':cZ} {w G:World} {ks:List Kept} (g:jf L w L' G) (h:KN L w ks):KN L' G ks:=⟨kJ.soft g (fun b o hm=>absurd hm (h.2 b o)) h.1,h.2⟩
theorem KN.obj {L:cZ} {w:World} {ks:List Kept} {k:Nat} {o:Obj} (f:Fix L w k o) (h:KN L w ks):KN L w (.obj k o::ks):=⟨⟨f,h.1⟩,fun b p hm=>by rcases List.mem_cons.1 hm with e|hm;cases e;exact h.2 b p hm⟩
theorem KN.row {L:cZ} {w:World} {ks:List Kept} {size:Nat} {v:Value} {xs:List Value} (f:dQ L w size v xs) (h:KN L w ks):KN L w (.row size v xs::ks):=⟨⟨f,h.1⟩,fun b p hm=>by rcases List.mem_cons.1 hm with e|hm;cases e;exact h.2 b p hm⟩
theorem KN.nil {L:cZ} {w:World}:KN L w []:=⟨trivial,fun _ _ h=>by cases h⟩
structure E2 (Y ce:Nat) (w0:World) (ks:List Kept) (vs:List (Nat×Obj)) (D τ:St) (w:World):Prop where
 ex:∃ A B:au,A.Y=Y∧B.Y=ce∧Two A D B τ vs w∧Grow (fun _=>none) w0 A.L w∧Grow (fun _=>none) w0 B.L w∧KN A.L w ks∧KN B.L w ks
section
variable {Y ce:Nat} {w0 w G:World} {ks:List Kept} {vs:List (Nat×Obj)} {D τ:St}
theorem E2.symm (h:E2 Y ce w0 ks vs D τ w):E2 ce Y w0 ks vs τ D w:=let ⟨A,B,e1,e2,t,g1,g2,k1,k2⟩:=h.ex;⟨B,A,e2,e1,t.symm,g2,g1,k2,k1⟩
theorem E2.toBelow (h:E2 Y ce w0 ks vs D τ w):Below w0.heap.size w0 w:=let ⟨_,_,_,_,_,g,_⟩:=h.ex;g.toBelow
theorem E2.below (h:E2 Y ce w0 ks vs D τ w) (Z:Below w.heap.size w G):E2 Y ce w0 ks vs D τ G:=
 let ⟨A,B,e1,e2,t,g1,g2,k1,k2⟩:=h.ex
 ⟨A,B,e1,e2,t.below Z,g1.trans (Grow.below Z),g2.trans (Grow.below Z),KN.grow (Grow.below Z) k1,KN.grow (Grow.below Z) k2⟩
theorem E2.drew (h:E2 Y ce w0 ks vs D τ w):E2 Y ce w0 ks vs D τ w.drew:=h.below (Below.refl _ _).drew
theorem E2.alloc (h:E2 Y ce w0 ks vs D τ w) (o:Obj):E2 Y ce w0 (.obj w.heap.size o::ks) vs D τ (w.alloc o):=
 let ⟨A,B,e1,e2,t,g1,g2,k1,k2⟩:=h.ex
 ⟨A,B,e1,e2,t.below ((Below.refl _ w).alloc (zr _) o),g1.trans (Grow.alloc _ _ _),g2.trans (Grow.alloc _ _ _),KN.obj (dO t.a.rep.mem.fresh _ rfl) (KN.grow (Grow.alloc _ _ _) k1),KN.obj (dO t.b.rep.mem.fresh _ rfl) (KN.grow (Grow.alloc _ _ _) k2)⟩
theorem E2.left (h:E2 Y ce w0 ks vs D τ w) {f:FuncId} {args:Array Value} {bE:St} {aa:Ending->Prop}
 (hc:∀ A,Live A D w->A.Y=Y->zk f args w fun e G=>aa e∧∃ A',Live A' bE G∧Grow A.L w A'.L G∧A'.Y=A.Y):
 zk f args w fun e G=>aa e∧E2 Y ce w0 ks vs bE τ G:=by
 obtain⟨A,B,e1,e2,t,g1,g2,k1,k2⟩:=h.ex;refine (hc A t.a e1).mono ?_;rintro e G ⟨hR,A',hL,g,eb⟩;have ho:=t.off hL g;have sa:jf A.L w (jq w.heap.size A'.L) G:=⟨g.size,fun b Z e=>g.block b Z e,fun b Z e=>df ((g.lab b Z).trans e)⟩
 have ga:=g1.trans g;refine⟨hR,A'.lab (jq w.heap.size A'.L),B.lab (aside B.L w.heap.size A'.L),eb.trans e1,e2,t.left hL g,⟨ga.os,ga.tape,ga.output,ga.size,ga.block,fun b Z=>df (ga.lab b Z),fun b Z e=>(by cases e)⟩,⟨g.os.trans g2.os,g.tape.trans g2.tape,g.output.trans g2.output,eP g2.size g.size,fun b Z hn=>?_,fun b Z=>?_,fun b Z e=>(by cases e)⟩,KN.soft sa k1,KN.soft ho.soft k2⟩
 . have hb':b<w.heap.size:=qW Z g2.size
   have hn2:B.L b=none:=g2.lab b Z;exact (ho.same b hb' (by rw[hn2];simp)).trans (g2.block b Z rfl)
 . have hb':b<w.heap.size:=qW Z g2.size
   exact (fO hb').trans (g2.lab b Z)
end
theorem PD {M:cZ} {k:Nat} {r:bN} (e:jq 0 M k=some r):M k=some r∧r≠.tmp:=zh (zz _) e
theorem Nf {Y ce k1 k2:Nat} {o1 o2:Obj} {w0 H w2:World} {D τ:St} (q:Pp Y w0 [.obj k1 o1] D H) (q2:∃ B:au,B.Y=ce∧Live B τ w2∧Grow (fun _=>none) H B.L w2∧B.L k2=some .tmp∧H.heap.size<=k2∧w2.heap[k2]? =some o2) (ht:τ.aP=[]) (hc:∀ s,τ.calls.getD s none=none) (hs:τ.sw=none):E2 Y ce w0 [.obj k1 o1,.obj k2 o2] [] D τ w2:=by
 obtain⟨A,ea,la,ga,⟨hk1,hk2⟩,-⟩:=q.ex;obtain⟨B,eb,lb,gb,hk3,hk4,hk5⟩:=q2;have hlt1:=eQ hk2;have fa:=la.rep.mem.fresh;have fb:=lb.rep.mem.fresh;obtain⟨P,hP⟩:∃ P:cZ,P=jq 0 A.L:=⟨_,rfl⟩
 obtain⟨Q,hQ⟩:∃ Q:cZ,Q=jq 0 B.L:=⟨_,rfl⟩
 have la':Live (A.lab P) D H:=la.Eo (fun b q e hq=>by rw[hP];exact oJ e hq) (fun b e=>by rw[hP];exact df e) (fun b Z=>by rw[hP];exact df (fa b Z));have lb':Live (B.lab Q) τ w2:=lb.Eo (fun b q e hq=>by rw[hQ];exact oJ e hq) (fun b e=>by rw[hQ];exact df e) (fun b Z=>by rw[hQ];exact df (fb b Z));have pt:∀ k r,P k=some r->r≠.tmp:=fun k r e=>by rw[hP] at e;exact (PD e).2
 have qt:∀ k r,Q k=some r->r≠.tmp:=fun k r e=>by rw[hQ] at e;exact (PD e).2
 have fq:∀ b,w2.heap.size<=b->Q b=none:=fun b Z=>by rw[hQ];exact df (fb b Z)
 have hlow:∀ k,k<H.heap.size->Q k=none:=fun k V=>by rw[hQ];exact df (gb.lab k V)
 have p0:∀ b,b<w0.heap.size->P b=none:=fun b Z=>by rw[hP];exact df (ga.lab b Z)
 have ho:Off P H (aside P H.heap.size Q) w2:=⟨gb.size,fun b Z _=>gb.block b Z rfl,fun b Z=>fO Z,fun b Z=>by rw[lI (eP gb.size Z),fq b Z]⟩
 obtain⟨M,hM⟩:∃ M:cZ,M=fun k=>if k<H.heap.size then (match P k with|some _=>some .tmp|none=>none) else Q k:=⟨_,rfl⟩
 have m1:∀ k,¬ k<H.heap.size->M k=Q k:=fun k V=>by rw[hM];exact aX V
 have m2:∀ k,k<H.heap.size->P k=none->M k=none:=fun k V e=>by rw[hM];show (if k<H.heap.size then _ else _)=_;rw[aV V,e]
 have m3:∀ k r,k<H.heap.size->P k=some r->M k=some .tmp:=fun k r V e=>by
  rw[hM];show (if k<H.heap.size then _ else _)=_;rw[aV V,e]
 have m4:∀ k r,k<H.heap.size->M k=some r->r=.tmp∧∃ q,P k=some q:=fun k r V e=>by
  rw[hM] at e;change (if k<H.heap.size then _ else _)=some r at e;rw[aV V] at e
  split at e
  . rename_i q hq;exact⟨(zj e).symm,q,hq⟩
  . cases e
 have Va : Live ((B.lab Q).lab M) τ w2 := lb'.El ht hc hs (fun b r e => by
   change Q b=some r at e
   rw[m1 b (fun V=>by rw[hlow b V] at e;cases e)];exact e) (fun b Z=>by rw[m1 b (by have:=gb.size;omega)];exact fq b Z)
 refine⟨(A.lab P).lab (aside P H.heap.size Q),(B.lab Q).lab M,ea,eb,⟨la'.off ho,Va,fun k r e hr=>?_,fun k r e hr=>?_,fun k e=>.inl ?_,fun k e=>.inl ?_,fun k o hm=>(by cases hm)⟩,⟨gb.os.trans ga.os,gb.tape.trans ga.tape,gb.output.trans ga.output,eP ga.size gb.size,fun b Z _=>(gb.block b (qW Z ga.size) rfl).trans (ga.block b Z rfl),fun b Z=>?_,fun b Z e=>(by cases e)⟩,⟨gb.os.trans ga.os,gb.tape.trans ga.tape,gb.output.trans ga.output,eP ga.size gb.size,fun b Z _=>(gb.block b (qW Z ga.size) rfl).trans (ga.block b Z rfl),fun b Z=>?_,fun b Z e=>(by cases e)⟩,⟨⟨⟨?_,?_⟩,⟨?_,hk5⟩,trivial⟩,fun b o hm=>(by simp at hm)⟩,⟨⟨⟨?_,?_⟩,⟨?_,hk5⟩,trivial⟩,fun b o hm=>(by simp at hm)⟩⟩
 . change aside P H.heap.size Q k=some r at e
   by_cases V:k<H.heap.size
   . rw[fO V] at e;exact m3 k r V e
   . exact absurd (xS (by omega) e) hr
 . change M k=some r at e
   show aside P H.heap.size Q k=some .tmp
   by_cases V:k<H.heap.size
   . exact absurd (m4 k r V e).1 hr
   . rw[m1 k V] at e;exact xR (by omega) e hr
 . change aside P H.heap.size Q k=some .tmp at e
   show ∃ r,M k=some r∧r≠.tmp
   by_cases V:k<H.heap.size
   . rw[fO V] at e;exact absurd rfl (pt k _ e)
   . rw[lI (by omega)] at e
     split at e
     . cases e
     . rename_i r hr e2;exact⟨r,(m1 k V).trans e2,qt k r e2⟩
     . cases e
 . change M k=some .tmp at e
   show ∃ r,aside P H.heap.size Q k=some r∧r≠.tmp
   by_cases V:k<H.heap.size
   . obtain⟨-,q,hq⟩:=m4 k _ V e
     exact⟨q,(fO V).trans hq,pt k q hq⟩
   . rw[m1 k V] at e;exact absurd rfl (qt k _ e)
 . exact (fO (qW Z ga.size)).trans (p0 b Z)
 . exact m2 b (qW Z ga.size) (p0 b Z)
 . exact (fO hlt1).trans (by rw[hP];exact df hk1)
 . exact (gb.block k1 hlt1 rfl).trans hk2
 . show aside P H.heap.size Q k2=none
   rw[lI hk4,show Q k2=none from by rw[hQ];unfold jq;rw[aX (Nat.not_lt_zero _),hk3]]
 . exact m2 k1 hlt1 (by rw[hP];exact df hk1)
 . exact (gb.block k1 hlt1 rfl).trans hk2
 . show M k2=none
   rw[m1 k2 (by omega),hQ];unfold jq;rw[aX (Nat.not_lt_zero _),hk3]
theorem E2.row {Y ce:Nat} {w0 w:World} {ks:List Kept} {vs:List (Nat×Obj)} {D τ:St} {size:Nat} {v:Value} {xs:List Value} (h:∃ A B:au,(A.Y=Y∧B.Y=ce∧Two A D B τ vs w∧Grow (fun _=>none) w0 A.L w∧Grow (fun _=>none) w0 B.L w∧KN A.L w ks∧KN B.L w ks)∧dQ A.L w size v xs):E2 Y ce w0 (.row size v xs::ks) vs D τ w:=by
 obtain⟨A,B,⟨e1,e2,t,g1,g2,k1,k2⟩,f⟩:=h;refine⟨A,B,e1,e2,t,g1,g2,KN.row f k1,KN.row ?_ k2⟩;exact dQ.soft f ⟨zr _,fun _ _ _=>rfl,fun b _ e=>t.none e⟩
theorem E2.Iy {Y ce:Nat} {w0 w:World} {ks:List Kept} {vs:List (Nat×Obj)} {D τ:St} (h:E2 Y ce w0 ks vs D τ w) {f:FuncId} {args:Array Value} {bE:St} {aa:Ending->Value->Prop} {size:Nat} {xs:List Value}
 (hc:∀ A,Live A D w->A.Y=Y->kJ A.L w ks->zk f args w fun e G=>∃ A' vp,aa e vp∧dQ A'.L G size vp xs∧Live A' bE G∧Grow A.L w A'.L G∧A'.Y=A.Y):
 zk f args w fun e G=>∃ vp,aa e vp∧E2 Y ce w0 (.row size vp xs::ks) vs bE τ G:=by
 obtain⟨A,B,e1,e2,t,g1,g2,k1,k2⟩:=h.ex;refine (hc A t.a e1 k1.1).mono ?_;rintro e G ⟨A',vp,hR,hf,hL,g,eb⟩;have ho:=t.off hL g;have t':=t.left hL g;have sa:jf A.L w (jq w.heap.size A'.L) G:=⟨g.size,fun b Z e=>g.block b Z e,fun b Z e=>df ((g.lab b Z).trans e)⟩
 have ga:=g1.trans g;have f1:dQ (jq w.heap.size A'.L) G size vp xs:=dQ.soft hf ⟨zr _,fun _ _ _=>rfl,fun b _ e=>df e⟩;have f2:dQ (aside B.L w.heap.size A'.L) G size vp xs:=dQ.soft f1 ⟨zr _,fun _ _ _=>rfl,fun b _ e=>t'.none e⟩;refine⟨vp,hR,A'.lab (jq w.heap.size A'.L),B.lab (aside B.L w.heap.size A'.L),eb.trans e1,e2,t',⟨ga.os,ga.tape,ga.output,ga.size,ga.block,fun b Z=>df (ga.lab b Z),fun b Z e=>(by cases e)⟩,⟨g.os.trans g2.os,g.tape.trans g2.tape,g.output.trans g2.output,eP g2.size g.size,fun b Z hn=>?_,fun b Z=>?_,fun b Z e=>(by cases e)⟩,KN.row f1 (KN.soft sa k1),KN.row f2 (KN.soft ho.soft k2)⟩
 . have hb':b<w.heap.size:=qW Z g2.size
   have hn2:B.L b=none:=g2.lab b Z;exact (ho.same b hb' (by rw[hn2];simp)).trans (g2.block b Z rfl)
 . have hb':b<w.heap.size:=qW Z g2.size
   exact (fO hb').trans (g2.lab b Z)
theorem E2.KM {Y ce:Nat} {w0 w:World} {ks:List Kept} {vs:List (Nat×Obj)} {D τ:St} (h:E2 Y ce w0 ks vs D τ w) {f:FuncId} {args:Array Value} {bE:St} {aa:Ending->Value->Prop} {size:Nat} {xs:List Value}
 (hc:∀ A,Live A D w->A.Y=Y->zk f args w fun e G=>∃ A' vp,aa e vp∧dQ A'.L G size vp xs∧Live A' bE G∧Grow A.L w A'.L G∧A'.Y=A.Y):
 zk f args w fun e G=>∃ vp,aa e vp∧E2 Y ce w0 (.row size vp xs::ks) vs bE τ G:=
 h.Iy fun A l e _=>hc A l e
theorem E2.obj {Y ce:Nat} {w0 w:World} {ks:List Kept} {vs:List (Nat×Obj)} {D τ:St} {k:Nat} {o:Obj} (h:E2 Y ce w0 ks vs D τ w) (hm:.obj k o∈ks):w.heap[k]? =some o:=by
 obtain⟨A,B,e1,e2,t,g1,g2,⟨k1,kn⟩,k2⟩:=h.ex;clear h g1 g2 t k2 kn
 induction ks with
 |nil=>cases hm
 |cons x ks ih=>
  rcases List.mem_cons.1 hm with rfl|hm
  . exact k1.1.2
  . exact ih hm k1.2
theorem E2.rowOf {Y ce:Nat} {w0 w:World} {ks:List Kept} {vs:List (Nat×Obj)} {D τ:St} {size:Nat} {v:Value} {xs:List Value} (h:E2 Y ce w0 ks vs D τ w) (hm:.row size v xs∈ks):Ow.Row w 0 size v xs:=by
 obtain⟨A,B,e1,e2,t,g1,g2,⟨k1,kn⟩,k2⟩:=h.ex;have hf:dQ A.L w size v xs:=by
  clear h g1 g2 t k2 kn
  induction ks with
  |nil=>cases hm
  |cons x ks ih=>
   rcases List.mem_cons.1 hm with rfl|hm
   . exact k1.1
   . exact ih hm k1.2
 obtain⟨ad,n,cap,rfl,h2,h3,h4,h5⟩:=hf;refine⟨ad,n,cap,rfl,h2,h3,h4,?_⟩
 rcases h5 with h5|⟨g,off,e1,e2,e3,e4⟩
 . exact .inl h5
 . exact .inr ⟨g,off,e1,zz _,e3,e4⟩
theorem E2.look {Y ce:Nat} {w0 w:World} {ks:List Kept} {vs:List (Nat×Obj)} {D τ:St} (h:E2 Y ce w0 ks vs D τ w) {f:FuncId} {args:Array Value} {aa:Ending->Prop} (hc:∀ A,Live A D w->A.Y=Y->zk f args w fun e G=>aa e∧Below w.heap.size w G):
 zk f args w fun e G=>aa e∧E2 Y ce w0 ks vs D τ G:=by
 obtain⟨A,B,e1,e2,t,g1,g2,k1,k2⟩:=h.ex;refine (hc A t.a e1).mono ?_;rintro e G ⟨hR,Z⟩;exact⟨hR,E2.below ⟨A,B,e1,e2,t,g1,g2,k1,k2⟩ Z⟩
theorem E2.var {Y ce:Nat} {w0 w:World} {ks:List Kept} {vs:List (Nat×Obj)} {D τ:St} (h:E2 Y ce w0 ks vs D τ w) (o:Obj):E2 Y ce w0 ks ((w.heap.size,o)::vs) D τ (w.alloc o):=by
 obtain⟨A,B,e1,e2,t,g1,g2,k1,k2⟩:=h.ex;have ga:Grow A.L w (A.tmp w.heap.size).L (w.alloc o):=(Grow.alloc A.L w o).gU (zr _) _;have gb:Grow B.L w (B.tmp w.heap.size).L (w.alloc o):=(Grow.alloc B.L w o).gU (zr _) _;have fa:∀ k r,A.L k=some r->k≠w.heap.size:=fun k r e V=>by rw[t.a.rep.mem.fresh k (by omega)] at e;cases e
 have fb:∀ k r,B.L k=some r->k≠w.heap.size:=fun k r e V=>by rw[t.b.rep.mem.fresh k (by omega)] at e;cases e
 have ia:∀ k r,gU A.L w.heap.size .tmp k=some r->(k=w.heap.size∧r=.tmp)∨A.L k=some r:=fun k r e=>by
  by_cases V:k=w.heap.size
  . subst V;rw[gH] at e;exact .inl ⟨rfl,(zj e).symm⟩
  . rw[di V] at e;exact .inr e
 have ib:∀ k r,gU B.L w.heap.size .tmp k=some r->(k=w.heap.size∧r=.tmp)∨B.L k=some r:=fun k r e=>by
  by_cases V:k=w.heap.size
  . subst V;rw[gH] at e;exact .inl ⟨rfl,(zj e).symm⟩
  . rw[di V] at e;exact .inr e
 have oa:∀ k r,A.L k=some r->gU A.L w.heap.size .tmp k=some r:=fun k r e=>(di (fa k r e)).trans e
 have ob:∀ k r,B.L k=some r->gU B.L w.heap.size .tmp k=some r:=fun k r e=>(di (fb k r e)).trans e
 refine⟨A.tmp w.heap.size,B.tmp w.heap.size,e1,e2,⟨t.a.lg o,t.b.lg o,fun k r e hr=>?_,fun k r e hr=>?_,fun k e=>?_,fun k e=>?_,fun k p hm=>?_⟩,g1.trans ga,g2.trans gb,k1.grow ga,k2.grow gb⟩
 . rcases ia k r e with ⟨_,h1⟩|h1
   . exact absurd h1 hr
   . exact ob k _ (t.ab k r h1 hr)
 . rcases ib k r e with ⟨_,h1⟩|h1
   . exact absurd h1 hr
   . exact oa k _ (t.ba k r h1 hr)
 . rcases ia k _ e with ⟨h1,_⟩|h1
   . exact .inr ⟨o,by rw[h1];exact lJ⟩
   . rcases t.at_ k h1 with ⟨r,h2,h3⟩|⟨p,h2⟩
     . exact .inl ⟨r,ob k r h2,h3⟩
     . exact .inr ⟨p,pq _ h2⟩
 . rcases ib k _ e with ⟨h1,_⟩|h1
   . exact .inr ⟨o,by rw[h1];exact lJ⟩
   . rcases t.bt k h1 with ⟨r,h2,h3⟩|⟨p,h2⟩
     . exact .inl ⟨r,oa k r h2,h3⟩
     . exact .inr ⟨p,pq _ h2⟩
 . rcases List.mem_cons.1 hm with h1|h1
   . obtain⟨rfl,rfl⟩:=Prod.mk.inj h1
     exact⟨gH _ _ _,gH _ _ _,heap_alloc_new w p⟩
   . obtain⟨h2,h3,h4⟩:=t.vr k p h1
     exact⟨oa k _ h2,ob k _ h3,(Below.heap_alloc w o k (eQ h4)).trans h4⟩
theorem E2.varOf {Y ce:Nat} {w0 w:World} {ks:List Kept} {vs:List (Nat×Obj)} {D τ:St} (h:E2 Y ce w0 ks vs D τ w) {g:Nat} {o:Obj} (hm:(g,o)∈vs):w.heap[g]? =some o:=by
 obtain⟨A,B,e1,e2,t,g1,g2,k1,k2⟩:=h.ex;exact (t.vr g o hm).2.2
theorem E2.put {Y ce:Nat} {w0 w G:World} {ks:List Kept} {vs:List (Nat×Obj)} {D τ:St} {g:Nat} {o o':Obj} (h:E2 Y ce w0 ks ((g,o)::vs) D τ w) (hv:∀ p,(g,p) ∉ vs) (Z:But g w G) (ho:G.heap[g]? =some o'):E2 Y ce w0 ks ((g,o')::vs) D τ G:=by
 obtain⟨A,B,e1,e2,t,g1,g2,k1,k2⟩:=h.ex;obtain⟨la,lb,lo⟩:=t.vr g o lJ;have hg1:w0.heap.size<=g:=by
  rcases Nat.lt_or_ge g w0.heap.size with h1|h1
  . rw[g1.lab g h1] at la;cases la
  . exact h1
 refine⟨A,B,e1,e2,⟨t.a.but la Z,t.b.but lb Z,t.ab,t.ba,fun k e=>?_,fun k e=>?_,fun k p hm=>?_⟩,g1.but hg1 Z,g2.but hg1 Z,k1.soft (Z.soft la),k2.soft (Z.soft lb)⟩
 . rcases t.at_ k e with h2|⟨p,h2⟩
   . exact .inl h2
   . rcases List.mem_cons.1 h2 with h3|h3
     . obtain⟨rfl,rfl⟩:=Prod.mk.inj h3
       exact .inr ⟨o',lJ⟩
     . exact .inr ⟨p,pq _ h3⟩
 . rcases t.bt k e with h2|⟨p,h2⟩
   . exact .inl h2
   . rcases List.mem_cons.1 h2 with h3|h3
     . obtain⟨rfl,rfl⟩:=Prod.mk.inj h3
       exact .inr ⟨o',lJ⟩
     . exact .inr ⟨p,pq _ h3⟩
 . rcases List.mem_cons.1 hm with h3|h3
   . obtain⟨rfl,rfl⟩:=Prod.mk.inj h3
     exact⟨la,lb,ho⟩
   . obtain⟨h4,h5,h6⟩:=t.vr k p (pq _ h3)
     exact⟨h4,h5,(Z.block k (fun e=>hv p (e ▸ h3))).trans h6⟩
theorem E2.Vb {Y ce:Nat} {w0 w:World} {ks:List Kept} {vs:List (Nat×Obj)} {D τ:St} (h:E2 Y ce w0 ks vs D τ w) {g:Nat} {o:Obj} (hm:(g,o)∈vs):g<w.heap.size:=eQ (h.varOf hm)
theorem KN.app {L:cZ} {w:World} {ks:List Kept} (h:KN L w ks):∀ {ls:List Kept},KN L w ls->KN L w (ls++ks)
 |[],_=>h
 |k::ls,⟨⟨h1,h2⟩,h3⟩=>by
  obtain⟨g1,g2⟩:=KN.app h (ls:=ls) ⟨h2,fun b o hm=>h3 b o (pq _ hm)⟩;refine⟨⟨h1,g1⟩,fun b o hm=>?_⟩
  rcases List.mem_cons.1 hm with e|hm
  . exact h3 b o (e ▸ lJ)
  . exact g2 b o hm
theorem E2.tail {Y ce:Nat} {w0 w:World} {k:Kept} {ks:List Kept} {vs:List (Nat×Obj)} {D τ:St} (h:E2 Y ce w0 (k::ks) vs D τ w):E2 Y ce w0 ks vs D τ w:=by
 obtain⟨A,B,e1,e2,t,g1,g2,⟨k1,n1⟩,⟨k2,n2⟩⟩:=h.ex;exact⟨A,B,e1,e2,t,g1,g2,⟨k1.2,fun b o hm=>n1 b o (pq _ hm)⟩,⟨k2.2,fun b o hm=>n2 b o (pq _ hm)⟩⟩
theorem E2.Ng {Y ce:Nat} {w0 w:World} {ks:List Kept} {vs:List (Nat×Obj)} {D τ:St} (h:E2 Y ce w0 ks vs D τ w) {f:FuncId} {args:Array Value} {bE:St} {aa:Ending->List Kept->Prop}
 (hc:∀ A,Live A D w->A.Y=Y->kJ A.L w ks->zk f args w fun e G=>∃ A' ls,aa e ls∧KN (jq w.heap.size A'.L) G ls∧Live A' bE G∧Grow A.L w A'.L G∧A'.Y=A.Y):
 zk f args w fun e G=>∃ ls,aa e ls∧E2 Y ce w0 (ls++ks) vs bE τ G:=by
 obtain⟨A,B,e1,e2,t,g1,g2,k1,k2⟩:=h.ex;refine (hc A t.a e1 k1.1).mono ?_;rintro e G ⟨A',ls,hR,hf,hL,g,eb⟩;have ho:=t.off hL g;have t':=t.left hL g;have sa:jf A.L w (jq w.heap.size A'.L) G:=⟨g.size,fun b Z e=>g.block b Z e,fun b Z e=>df ((g.lab b Z).trans e)⟩
 have ga:=g1.trans g;have f2:KN (aside B.L w.heap.size A'.L) G ls:=KN.soft ⟨zr _,fun _ _ _=>rfl,fun b _ e=>t'.none e⟩ hf;refine⟨ls,hR,A'.lab (jq w.heap.size A'.L),B.lab (aside B.L w.heap.size A'.L),eb.trans e1,e2,t',⟨ga.os,ga.tape,ga.output,ga.size,ga.block,fun b Z=>df (ga.lab b Z),fun b Z e=>(by cases e)⟩,⟨g.os.trans g2.os,g.tape.trans g2.tape,g.output.trans g2.output,eP g2.size g.size,fun b Z hn=>?_,fun b Z=>?_,fun b Z e=>(by cases e)⟩,KN.app (KN.soft sa k1) hf,KN.app (KN.soft ho.soft k2) f2⟩
 . have hb':b<w.heap.size:=qW Z g2.size
   have hn2:B.L b=none:=g2.lab b Z;exact (ho.same b hb' (by rw[hn2];simp)).trans (g2.block b Z rfl)
 . have hb':b<w.heap.size:=qW Z g2.size
   exact (fO hb').trans (g2.lab b Z)
def Nh (r:ic) (vp:Value):List Value:=[I r.e,I r.value,vp,I r.over,I r.ay]
def BI (rs:List ic) (cs:List Value) (ls:List Kept):Prop:=cs.length=rs.length*5∧∀ n r,rs[n]? =some r->∃ vp,Kept.row 2 vp (bI r.aB)∈ls∧∀ f u,(Nh r vp)[f]? =some u->cs[n*5+f]? =some u
theorem jg.kept {L:cZ} {w:World}:∀ {rs:List ic} {cs:List Value},jg L w rs cs->∃ ls,KN L w ls∧BI rs cs ls
 |[],cs,h=>⟨[],KN.nil,by rw[show cs=[] from h];rfl,fun n r hr=>by cases hr⟩
 |r::rs,_,⟨vp,cs',rfl,h2,h3⟩=>by
  obtain⟨ls,h4,h5,h6⟩:=jg.kept h3;refine⟨.row 2 vp (bI r.aB)::ls,KN.row h2 h4,by simp[h5];omega,fun n r' hr=>?_⟩
  cases n with
  |zero=>
   obtain rfl:=zj hr;refine⟨vp,lJ,fun f u hu=>?_⟩;have hf:f<5:=(List.getElem?_eq_some_iff.1 hu).1;rw[Nat.zero_mul,Nat.zero_add,List.getElem?_append_left hf];exact hu
  |succ n=>
   obtain⟨RQ,m1,m2⟩:=h6 n r' hr;refine⟨RQ,pq _ m1,fun f u hu=>?_⟩;rw[NA (by simp;omega),show (n+1)*5+f - [Value.int .i64 (r.e:Int),I r.value,vp,I r.over,I r.ay].length=n*5+f by simp;omega];exact m2 f u hu
theorem E2.whole {Y ce:Nat} {w0 w:World} {ks:List Kept} {vs:List (Nat×Obj)} {D τ:St} (h:E2 Y ce w0 ks vs D τ w) (s:Nat) (hs:s<8) (ak:Nat) (ops:List En.Op) (a:Option Addr) (n c:Nat) (hm:Kept.row 4 (.slice a n c) (dG ops)∈ks) (hn:n<=100000) (zo:Nat) (hF:zo<=13824000) (bE:St) (rs:List ic) (err:Nat) (aN:runWhole zo D s ak ops=some (bE,rs,err)):
 zk 8 #[R Y 0,I s,I ak,.slice a n c] w fun e G=>∃ vo cs ls,e=.returned (.tuple #[vo,I err])∧BI rs cs ls∧E2 Y ce w0 (.row 5 vo cs::ls++ks) vs bE τ G:=by
 have hC:=h.Ng (f:=8) (args:=#[R Y 0,I s,I ak,.slice a n c]) (bE:=bE) (aa:=fun e ls'=>∃ vo cs ls,e=.returned (.tuple #[vo,I err])∧BI rs cs ls∧ls'=.row 5 vo cs::ls) (fun A hL eb V=>?_)
 . refine hC.mono ?_
   rintro e G ⟨ls',⟨vo,cs,ls,e1,e2,rfl⟩,h2⟩;exact⟨vo,cs,ls,e1,e2,h2⟩
 . subst eb
   have hr:dQ A.L w 4 (.slice a n c) (dG ops):=by
    clear h
    induction ks with
    |nil=>cases hm
    |cons k ks ih=>
     rcases List.mem_cons.1 hm with e|e
     . subst e;exact V.1
     . exact ih e V.2
   refine (uL hL s hs ak ops a n c hr hn zo hF bE rs err aN).mono ?_;rintro e G ⟨A',vo,cs,rfl,ht,hres,hL',g,Vd,hge⟩;obtain⟨ls,k1,k2⟩:=(hres.soft (L':=jq w.heap.size A'.L) (G:=G) ⟨zr _,fun _ _ _=>rfl,fun b _ e=>df e⟩).kept;refine⟨A',.row 5 vo cs::ls,⟨vo,cs,ls,rfl,k2,rfl⟩,KN.row ?_ k1,hL',g,Vd⟩;obtain⟨a',n',cap',rfl,h2,h3,h4,h5⟩:=ht.1;refine⟨a',n',cap',rfl,h2,h3,h4,?_⟩
   rcases h5 with h5|⟨b,off,rfl,_,e3,e4⟩
   . exact .inl h5
   . refine .inr ⟨b,off,rfl,?_,e3,e4⟩
     have Z:=ht.2 b rfl;unfold jq;rw[aX (by have:=hge b rfl;omega),Z]
def PS (w G:World):Prop:=∀ (g:Nat) (cs:Array Value),w.heap[g]? =some (Obj.cells cs 152)->G.heap[g]? =w.heap[g]?
theorem PS.trans {w H w2:World} (h:PS w H) (k:PS H w2):PS w w2:=fun g cs hg=>(k g cs ((h g cs hg).trans hg)).trans (h g cs hg)
theorem PS.below {w G:World} (h:Below w.heap.size w G):PS w G:=fun g cs hg=>h.block g (eQ hg)
theorem PS.grown {w G : World} {ob : Option Nat} (h : w.grownBy G ob) (ht : ∀ (g : Nat), ob = some g -> ∃ (cs : Array Value) (T : TypeId), w.heap[g]? = some (Obj.cells cs T) ∧ T ≠ 152) : PS w G := fun g cs hg => h.block g (eQ hg) (by
  intro e
  obtain⟨cs',T,h1,h2⟩:=ht g e.symm
  rw[hg] at h1
  simp only[Option.some.injEq,Obj.cells.injEq] at h1
  exact h2 h1.2.1.symm)
theorem PS.but {w G : World} {b : Nat} {cs : Array Value} {T : TypeId} (h : But b w G) (Z : w.heap[b]? = some (.cells cs T)) (hT : T ≠ 152) : PS w G := fun g cs' hg => h.block g (by
  rintro rfl
  rw[Z] at hg
  simp only[Option.some.injEq,Obj.cells.injEq] at hg
  exact hT hg.2.1)
theorem Dg {w G:World} {base:Nat} {v:Value} {n:Nat} {xs:List Value} (h:w.ownsRow base 152 2 v n xs) (hp:PS w G):G.ownsRow base 152 2 v n xs:=by
 rcases h.2 with ⟨e1,e2⟩|⟨g,cap',cur,hv,hb',hg,hx1,hx2,hx3,hx4⟩
 . exact⟨h.1,.inl ⟨e1,e2⟩⟩
 . exact⟨h.1,.inr ⟨g,cap',cur,hv,hb',(hp g _ hg).trans hg,hx1,hx2,hx3,hx4⟩⟩
def Di (base:Nat) (w:World):List Ev->List Value->Prop
 |[],xs=>xs=[]
 |e::l,xs=>∃ vp ys,xs=lK e vp++ys∧w.ownsRow base 152 2 vp e.res.aB.length (bI e.res.aB)∧Di base w l ys
theorem Di.ps {base:Nat} {w G:World} (hp:PS w G):∀ {l:List Ev} {xs:List Value},Di base w l xs->Di base G l xs
 |[],_,h=>h
 |_::_,_,⟨vp,ys,h1,h2,h3⟩=>⟨vp,ys,h1,Dg h2 hp,Di.ps hp h3⟩
theorem Di.snoc {base:Nat} {w:World} {e:Ev} {vp:Value} (hp:w.ownsRow base 152 2 vp e.res.aB.length (bI e.res.aB)):∀ {l:List Ev} {xs:List Value},Di base w l xs->Di base w (l++[e]) (xs++lK e vp)
 |[],xs,h=>by
  have h0:xs=[]:=h;subst h0;exact⟨vp,[],by simp,hp,rfl⟩
 |_::_,_,⟨v,ys,h1,h2,h3⟩=>⟨v,ys++lK e vp,by rw[h1,List.append_assoc],h2,Di.snoc hp h3⟩
theorem pE.at {L:cZ} {w:World}:∀ {l:List Ev} {xs:List Value},pE L w l xs->∀ {k:Nat} {e:Ev},l[k]? =some e->∃ vp,jL L w vp (bI e.res.aB)∧∀ j,j<12->xs[k*12+j]? =(lK e vp)[j]?
 |[],_,_,_,_,h=>by cases h
 |e'::l,xs,⟨vp,ys,h1,h2,h3⟩,0,e,h=>by
  obtain rfl:e'=e:=by simpa using h
  refine⟨vp,h2,fun j hj=>?_⟩;rw[h1,Nat.zero_mul,Nat.zero_add,List.getElem?_append_left (by exact hj)]
 |e'::l,xs,⟨vp,ys,h1,h2,h3⟩,k+1,e,h=>by
  obtain⟨vq,g1,g2⟩:=pE.at h3 (k:=k) (e:=e) (by simpa using h);refine⟨vq,g1,fun j hj=>?_⟩;rw[h1,NA (by show 12<=_;omega),show (k+1)*12+j - (lK e' vp).length=k*12+j by show _ - 12=_;omega];exact g2 j hj
theorem Ni:(Tryz.prog.info? 62).map (fun i=>(i.zero,i.size,i.bytes))=some (some (.agg #[I 0,I 0,zu 0,I 0,I 0,I 0,I 0,I 0,I 0,.slice none 0 0,I 0,I 0]),12,112):=by kernel_rfl
theorem KQ {w:World} {base base':Nat} {e:TypeId} {size:Nat} {v:Value} {n:Nat} {xs:List Value} (h:w.ownsRow base e size v n xs) (Z:base'<=base):w.ownsRow base' e size v n xs:=by
 rcases h.2 with ⟨e1,e2⟩|⟨g,cap',cur,hv,hb',hg,hx⟩
 . exact⟨h.1,.inl ⟨e1,e2⟩⟩
 . exact⟨h.1,.inr ⟨g,cap',cur,hv,eP Z hb',hg,hx⟩⟩
theorem Iz {w:World} {base:Nat} {e:TypeId} {size:Nat} {v:Value} {n:Nat} {xs:List Value} (h:w.ownsRow base e size v n xs) (hn:0<n):∃ g cap,v=.slice (some (J g 0)) n cap∧∃ cur,w.heap[g]? =some (.cells cur e):=by
 rcases h.2 with ⟨_,h0⟩|⟨g,cap,cur,hv,Z,hg,hnc,hcm,_⟩
 . omega
 . exact⟨g,cap,hv,cur,hg⟩
theorem IA {A:au} {D:St} {w:World} (hR:aD A D w) (hn:D.aP.length<100000) (hp:∀ e∈D.aP,e.res.aB.length<=1000000):
 zk 15 #[R A.Y 0] w fun e G=>∃ v cs,e=.returned v∧G.ownsRow w.heap.size 62 12 v D.aP.length cs∧Di w.heap.size G D.aP cs∧Below w.heap.size w G:=by
 obtain⟨ii,hii,hz0,hz1,hz2⟩:=info_parts Ni;have e24:w.cell? (J A.Y 24)=some A.iT:=hR.eH 24 rfl;obtain⟨ta,tc,hv,_⟩:=Ow.bD (hR.mem.all .aP).1;rw[hv] at e24;obtain⟨n,hnn⟩:∃ n,n=D.aP.length:=⟨_,rfl⟩
 rw[<-hnn] at hv e24 hn ⊢;have H0:=U (zA hR (zA hn (zA hp (zA hv hnn))));clear hR hn hp hv hnn;go_enter Tryz.func15,Tryz.ntmps15;go_wp2
 go_loopw [3,11] (fun l i wr=>∃ (k:Nat) (cs:List Value),i=I k∧k<=n∧wr.ownsRow w.heap.size 62 12 l k cs∧Di w.heap.size wr (D.aP.take k) cs∧Below w.heap.size w wr) (fun _ i _=>n - (intOf i).toNat)
 case atStart=>exact⟨0,[],rfl,zz _,World.ownsRow_nil _ _ _ _,rfl,Below.refl _ _⟩
 case round=>
  obtain⟨k,cs,rfl,hkn,aS,hev,Z⟩:=hrel;obtain⟨la,lc,rfl,Ve,Vf,_⟩:=Ow.bD aS;obtain⟨hR,hn,hp,hv,hnn⟩:=H0.out
  by_cases hlt:k<n
  . obtain⟨ev,Nj⟩:∃ ev,D.aP[k]? =some ev:=⟨_,zx (by omega)⟩
    have hr:=hR.below Z;have ht:wr.ownsRow 0 62 12 A.iT D.aP.length A.fH:=(hr.mem.all .aP).1;rw[<-hnn] at ht;obtain⟨gt,VH,hv',_⟩:=Iz ht (by omega);rw[hv] at hv';simp only[Value.slice.injEq] at hv';obtain⟨rfl,_,rfl⟩:=hv';obtain⟨vp,hpr,hcs⟩:=pE.at hr.ev Nj;obtain⟨pa,pn,pc,rfl⟩:=jU hpr.1;have hpn:ev.res.aB.length=pn:=by
     obtain⟨_,_,_,e0,h1,_⟩:=hpr.1;simp only[Value.slice.injEq] at e0;rw[jP] at h1;omega
    have hpl:=hp ev (List.mem_of_getElem? Nj);rw[hv] at ht;have hX:∀ j v,j<12->(lK ev (.slice pa pn pc))[j]? =some v->wr.cell? ⟨gt,k*12+j,none⟩=some v:=fun j v hj hj2=>by
     rw[ht.cellAt (k*12+j) (by omega),hcs j hj];exact hj2
    have X0:=hX 0 _ (by omega) rfl;rw[Nat.add_zero] at X0;have X1:=hX 1 _ (by omega) rfl;have X2:=hX 2 _ (by omega) rfl;have X3:=hX 3 _ (by omega) rfl;have X4:=hX 4 _ (by omega) rfl;have X5:=hX 5 _ (by omega) rfl;have X6:=hX 6 _ (by omega) rfl;have X7:=hX 7 _ (by omega) rfl;have X8:=hX 8 _ (by omega) rfl;have X9:=hX 9 _ (by omega) rfl;have Vg:=hX 10 _ (by omega) rfl;have Vh:=hX 11 _ (by omega) rfl;have HC:Hid (∀ H,Below wr.heap.size wr H->zk 53 #[.agg #[I ev.res.e,I ev.res.value,.slice pa pn pc,I ev.res.over,I ev.res.ay]] H fun e G=>∃ qa qc,e=.returned (.agg #[I ev.res.e,I ev.res.value,.slice qa pn qc,I ev.res.over,I ev.res.ay])∧G.ownsRow H.heap.size 152 2 (.slice qa pn qc) pn (bI ev.res.aB)∧Below H.heap.size H G):=fun H hb1=>pR H _ _ _ _ pa pn pc ev.res.aB (dQ.row (hpr.1.grow (Grow.below hb1))) hpn (by omega)
    have b0:((k:Int)<(n:Int))=True:=by simp;omega
    have b1:(k:Int)<(n:Int):=by omega
    have b2:(0:Int)<=(k:Int):=by omega
    have n3:IntKind.i64.wrap ((k:Int)+1)=(k:Int)+1:=by rw[jH];omega
    have HX:=U (zA aS (zA hev (zA Z (zA Nj (zA hlt (zA hpn (zA hn hnn)))))));clear aS hev Z Nj hlt hpn hn hnn hR hp hv hr ht hpr hcs hpl hX hkn;have NJ:Hid (∀ H,H=wr.alloc (.cells #[I ev.kind,I ev.t,zu ev.n,I ev.op.kind,I ev.op.E,I ev.op.hi,I ev.op.value,I ev.res.e,I ev.res.value,.slice pa pn pc,I ev.res.over,I ev.res.ay] 62)->(zT H wr.heap.size 7 ev.res.e∧zT H wr.heap.size 8 ev.res.value∧H.cell? (J wr.heap.size 9)=some (.slice pa pn pc)∧zT H wr.heap.size 10 ev.res.over∧zT H wr.heap.size 11 ev.res.ay)):=by
     rintro H rfl;have h:=heap_alloc_new wr (.cells #[I ev.kind,I ev.t,zu ev.n,I ev.op.kind,I ev.op.E,I ev.op.hi,I ev.op.value,I ev.res.e,I ev.res.value,.slice pa pn pc,I ev.res.over,I ev.res.ay] 62);refine⟨?_,?_,?_,?_,?_⟩<;>(rw[cell_of_row _ _ _ _ _ _ h];rfl)
    go_upto_region 5 with fail
    have hb1:Below wr.heap.size wr (wr.alloc (.cells #[I ev.kind,I ev.t,zu ev.n,I ev.op.kind,I ev.op.E,I ev.op.hi,I ev.op.value,I ev.res.e,I ev.res.value,.slice pa pn pc,I ev.res.over,I ev.res.ay] 62)):=(Below.refl _ _).alloc (zr _) _;have h1:=heap_alloc_new wr (.cells #[I ev.kind,I ev.t,zu ev.n,I ev.op.kind,I ev.op.E,I ev.op.hi,I ev.op.value,I ev.res.e,I ev.res.value,.slice pa pn pc,I ev.res.over,I ev.res.ay] 62);obtain⟨y7,y8,y9,IM,NG⟩:=NJ.out _ rfl;have La:=U (HC.out _ hb1);have hsz:(wr.alloc (.cells #[I ev.kind,I ev.t,zu ev.n,I ev.op.kind,I ev.op.E,I ev.op.hi,I ev.op.value,I ev.res.e,I ev.res.value,.slice pa pn pc,I ev.res.over,I ev.res.ay] 62)).heap.size=wr.heap.size+1:=by simp
    have H1:=U (zA hb1 (zA h1 hsz));clear hb1 h1 HC NJ X0 X1 X2 X3 X4 X5 X6 X7 X8 X9 Vg Vh hsz;generalize wr.alloc _=H at*;go_upto_region 6 with (first|(go_at_call 53;refine La.out.mono ?_;rintro e w2 ⟨qa,qc,rfl,q1,q2⟩;have hb2:=H1.out.1.trans (q2.mono H1.out.1.size);have h2:w2.heap[wr.heap.size]? =some (.cells #[I ev.kind,I ev.t,zu ev.n,I ev.op.kind,I ev.op.E,I ev.op.hi,I ev.op.value,I ev.res.e,I ev.res.value,.slice pa pn pc,I ev.res.over,I ev.res.ay] 62):=(q2.block _ (by rw[H1.out.2.2];omega)).trans H1.out.2.1;have H2:=U (zA q1 (zA q2 (zA hb2 h2)));have TP:=ik h2;clear q1 q2 hb2 h2)|(refine wpList_store_mid rfl 46 (.tmp 18) (.tmp 17) rfl wr.heap.size 7 #[I ev.res.e,I ev.res.value,.slice qa pn qc,I ev.res.over,I ev.res.ay] rfl rfl (by intro j hj;have h:=TP (7+j) (by simp at hj ⊢;omega);simpa [Nat.add_assoc] using h) (by kernel_rfl) (by simp[Value.oneCell']) ?_;generalize hws:World.setCells _ _ _ _=w3))
    obtain⟨q1,q2,hb2,h2⟩:=H2.out;have h3:w3.heap[wr.heap.size]? =some (.cells #[I ev.kind,I ev.t,zu ev.n,I ev.op.kind,I ev.op.E,I ev.op.hi,I ev.op.value,I ev.res.e,I ev.res.value,.slice qa pn qc,I ev.res.over,I ev.res.ay] 62):=by
     rw[<-hws];have g1:=heap_setCell_same h2 7 (I ev.res.e);have g2:=heap_setCell_same g1 8 (I ev.res.value);have g3:=heap_setCell_same g2 9 (.slice qa pn qc);have g4:=heap_setCell_same g3 10 (I ev.res.over);have g5:=heap_setCell_same g4 11 (I ev.res.ay);exact g5
    have dW:But wr.heap.size w2 w3:=by rw[<-hws];exact But.setCells _ _ _ _
    obtain⟨aS,hev,Z,Nj,hlt,hpn,hn,hnn⟩:=HX.out;have hsame:∀ b,b<wr.heap.size->w3.heap[b]? =wr.heap[b]? :=fun b hb'=>(dW.block b (by omega)).trans (hb2.block b hb')
    have hown3:=mi (G:=w3.alloc (.cells #[I ev.kind,I ev.t,zu ev.n,I ev.op.kind,I ev.op.E,I ev.op.hi,I ev.op.value,I ev.res.e,I ev.res.value,.slice qa pn qc,I ev.res.over,I ev.res.ay] 62)) aS fun g hg=>(heap_alloc_old _ _ (qW (aS.lt g hg).2 (by rw[dW.size];exact hb2.size))).trans (hsame g (aS.lt g hg).2)
    have TS:PS wr (w3.alloc (.cells #[I ev.kind,I ev.t,zu ev.n,I ev.op.kind,I ev.op.E,I ev.op.hi,I ev.op.value,I ev.res.e,I ev.res.value,.slice qa pn qc,I ev.res.over,I ev.res.ay] 62)):=((PS.below hb2).trans (PS.but dW h2 (by decide))).trans (PS.below ((Below.refl _ _).alloc (zr _) _));have ps2:PS w2 (w3.alloc (.cells #[I ev.kind,I ev.t,zu ev.n,I ev.op.kind,I ev.op.E,I ev.op.hi,I ev.op.value,I ev.res.e,I ev.res.value,.slice qa pn qc,I ev.res.over,I ev.res.ay] 62)):=(PS.but dW h2 (by decide)).trans (PS.below ((Below.refl _ _).alloc (zr _) _));have hpr:(w3.alloc (.cells #[I ev.kind,I ev.t,zu ev.n,I ev.op.kind,I ev.op.E,I ev.op.hi,I ev.op.value,I ev.res.e,I ev.res.value,.slice qa pn qc,I ev.res.over,I ev.res.ay] 62)).ownsRow w.heap.size 152 2 (.slice qa pn qc) pn (bI ev.res.aB):=KQ (Dg q1 ps2) (by rw[H1.out.2.2];have:=Z.size;omega);have hb3:Below w.heap.size w (w3.alloc (.cells #[I ev.kind,I ev.t,zu ev.n,I ev.op.kind,I ev.op.E,I ev.op.hi,I ev.op.value,I ev.res.e,I ev.res.value,.slice qa pn qc,I ev.res.over,I ev.res.ay] 62)):=by
     refine Below.alloc ⟨?_,?_,?_,?_,?_⟩ (by rw[dW.size];exact eP Z.size hb2.size) _
     . exact dW.os.trans (hb2.os.trans Z.os)
     . exact dW.tape.trans (hb2.tape.trans Z.tape)
     . exact dW.output.trans (hb2.output.trans Z.output)
     . rw[dW.size];exact eP Z.size hb2.size
     . exact fun b hb'=>(hsame b (qW hb' Z.size)).trans (Z.block b hb')
    have PE:∀ (g:Nat),(Value.slice la k lc).ownBlock=some g->∃ (cs:Array Value) (T:TypeId),(w3.alloc (.cells #[I ev.kind,I ev.t,zu ev.n,I ev.op.kind,I ev.op.E,I ev.op.hi,I ev.op.value,I ev.res.e,I ev.res.value,.slice qa pn qc,I ev.res.over,I ev.res.ay] 62)).heap[g]? =some (Obj.cells cs T)∧T≠152:=fun g hg=>by
     rcases hown3.2 with ⟨e0,_⟩|⟨g',cap,cur,hv,_,hgc,_⟩
     . simp only[Value.slice.injEq] at e0
       rw[e0.1] at hg;cases hg
     . rw[hv] at hg
       obtain rfl:g'=g:=by simpa [Value.ownBlock] using hg
       exact⟨cur,_,hgc,by decide⟩
    have HZ:=U (zA hown3 (zA (hev.ps TS) (zA hpr (zA hb3 (zA PE (zA Nj (zA hlt (zA hpn hn))))))));have Z0:=(show w3.cell? (J wr.heap.size 0)=some _ by rw[cell_of_row _ _ _ _ _ _ h3];rfl)
    have Z1:=(show w3.cell? (J wr.heap.size 1)=some _ by rw[cell_of_row _ _ _ _ _ _ h3];rfl)
    have Z2:=(show w3.cell? (J wr.heap.size 2)=some _ by rw[cell_of_row _ _ _ _ _ _ h3];rfl)
    have Z3:=(show w3.cell? (J wr.heap.size 3)=some _ by rw[cell_of_row _ _ _ _ _ _ h3];rfl)
    have Z4:=(show w3.cell? (J wr.heap.size 4)=some _ by rw[cell_of_row _ _ _ _ _ _ h3];rfl)
    have Z5:=(show w3.cell? (J wr.heap.size 5)=some _ by rw[cell_of_row _ _ _ _ _ _ h3];rfl)
    have Z6:=(show w3.cell? (J wr.heap.size 6)=some _ by rw[cell_of_row _ _ _ _ _ _ h3];rfl)
    have Z7:=(show w3.cell? (J wr.heap.size 7)=some _ by rw[cell_of_row _ _ _ _ _ _ h3];rfl)
    have Z8:=(show w3.cell? (J wr.heap.size 8)=some _ by rw[cell_of_row _ _ _ _ _ _ h3];rfl)
    have Z9:=(show w3.cell? (J wr.heap.size 9)=some _ by rw[cell_of_row _ _ _ _ _ _ h3];rfl)
    have VI:=(show w3.cell? (J wr.heap.size 10)=some _ by rw[cell_of_row _ _ _ _ _ _ h3];rfl)
    have VJ:=(show w3.cell? (J wr.heap.size 11)=some _ by rw[cell_of_row _ _ _ _ _ _ h3];rfl)
    clear q1 q2 hb2 h2 h3 dW aS hev Z Nj hlt hpn hn hnn hsame hown3 TS ps2 hpr hb3 PE H2 HX H1 La hws TP y7 y8 y9 IM NG;go_wp2_with (refine Ow.dH _ rfl (.tmp 19) (.tmp 21) 52 rfl w.heap.size 62 ii _ 12 112 Tryz.underlying52 hii hz0 hz1 hz2 rfl (by decide) (.slice la k lc) k cs rfl HZ.out.1 (J w3.heap.size 0) 1 1 (by omega) [I ev.kind,I ev.t,zu ev.n,I ev.op.kind,I ev.op.E,I ev.op.hi,I ev.op.value,I ev.res.e,I ev.res.value,.slice qa pn qc,I ev.res.over,I ev.res.ay] rfl rfl (fun j u hu=>Ow.iF w3 [I ev.kind,I ev.t,zu ev.n,I ev.op.kind,I ev.op.E,I ev.op.hi,I ev.op.value,I ev.res.e,I ev.res.value,.slice qa pn qc,I ev.res.over,I ev.res.ay] _ w3.heap.size (by simp) j u hu) (by intro u hu;simp at hu;rcases hu with rfl|rfl|rfl|rfl|rfl|rfl|rfl|rfl|rfl|rfl|rfl|rfl<;>rfl) (by have:=HZ.out.2.2.2.2.2.2.1;have:=HZ.out.2.2.2.2.2.2.2.2;unfold maxLen;omega) (by have:=HZ.out.2.2.2.2.2.2.1;have:=HZ.out.2.2.2.2.2.2.2.2;omega) (HZ.out.2.2.2.1.size) ?_;intro v' w4 q1 q2 q3;obtain⟨av,cv,rfl,_⟩:=Ow.bD q1;have HY:=U (zA q1 q2);clear q1 q2 q3)
    go_roundw
    case rel=>
     obtain⟨z1,z2,z3,z4,z5,z6,z7,z8,z9⟩:=HZ.out;obtain⟨q1,q2⟩:=HY.out;have TU:=PS.grown q2 z5;refine⟨k+1,cs++[I ev.kind,I ev.t,zu ev.n,I ev.op.kind,I ev.op.E,I ev.op.hi,I ev.op.value,I ev.res.e,I ev.res.value,.slice qa pn qc,I ev.res.over,I ev.res.ay],rfl,z7,q1,?_,⟨q2.os.trans z4.os,q2.tape.trans z4.tape,q2.output.trans z4.output,eP z4.size q2.size,fun b Z=>(q2.block b (qW Z z4.size) (fun e=>?_)).trans (z4.block b Z)⟩⟩
     . rw[List.take_add_one,z6]
       have h9:Di w.heap.size w4 (D.aP.take k++[ev]) (cs++lK ev (.slice qa pn qc)):=(z2.ps TU).snoc (by rw[z8];exact Dg z3 TU);exact h9
     . have:=(z1.lt b e.symm).1
       omega
    case measure=>have:=HZ.out.2.2.2.2.2.2.1;simp[intOf];omega
  . obtain rfl:k=n:=by omega
    have b0:((k:Int)<(k:Int))=False:=by simp
    have HX:=U (zA aS (zA hev (zA Z hnn)));clear aS hev Z hnn hlt hkn hn hp hv hR;go_wp2;go_ret;obtain⟨aS,hev,Z,hnn⟩:=HX.out;rw[hnn,List.take_length] at hev;exact⟨_,cs,rfl,aS,hev,Z⟩
def BJ (w:World):List Ev->List Value->Prop
 |[],xs=>xs=[]
 |e::l,xs=>∃ a c ys,xs=lK e (.slice a e.res.aB.length c)++ys∧Ow.Row w 0 2 (.slice a e.res.aB.length c) (bI e.res.aB)∧BJ w l ys
theorem BJ.len {w:World}:∀ {l:List Ev} {xs:List Value},BJ w l xs->xs.length=l.length*12
 |[],_,h=>by rw[show _=_ from h];rfl
 |e::l,_,⟨a,c,ys,h1,_,h3⟩=>by rw[h1,jF,BJ.len h3,List.length_cons];show 12+_=_;omega
theorem BJ.at_ {w:World}:∀ {l:List Ev} {xs:List Value} (_:BJ w l xs) (k:Nat) (e:Ev),l[k]? =some e->∃ a c,(∀ j,j<12->xs[k*12+j]? =(lK e (.slice a e.res.aB.length c))[j]?)∧Ow.Row w 0 2 (.slice a e.res.aB.length c) (bI e.res.aB)
 |[],_,_,k,e,V=>by simp at V
 |e0::l,_,⟨a,c,ys,h1,h2,h3⟩,0,e,V=>by
  simp at V;subst V;refine⟨a,c,fun j hj=>?_,h2⟩;rw[h1,List.getElem?_append_left (by show 0*12+j<12;omega)];simp
 |e0::l,_,⟨a,c,ys,h1,h2,h3⟩,k+1,e,V=>by
  obtain⟨a',c',g1,g2⟩:=BJ.at_ h3 k e (by simpa using V);refine⟨a',c',fun j hj=>?_,g2⟩;rw[h1,NA (by show 12<=_;omega)];rw[show (k+1)*12+j - (lK e0 (.slice a e0.res.aB.length c)).length=k*12+j from by show _ - 12=_;omega];exact g1 j hj
theorem BK {w:World} {base size:Nat} {v:Value} {xs:List Value} (h:Ow.Row w base size v xs):Ow.Row w 0 size v xs:=by
 obtain⟨a,n,cap,h1,h2,h3,h4,h5⟩:=h;refine⟨a,n,cap,h1,h2,h3,h4,?_⟩
 rcases h5 with h5|⟨g,off,e1,e2,e3,e4⟩
 . exact .inl h5
 . exact .inr ⟨g,off,e1,zz _,e3,e4⟩
theorem Di.TV {base:Nat} {w:World}:∀ {l:List Ev} {xs:List Value},Di base w l xs->BJ w l xs
 |[],_,h=>h
 |e::l,_,⟨vp,ys,h1,h2,h3⟩=>by
  have hr:=BK (yg h2);obtain⟨a,c,rfl,_⟩:=Ow.bD h2;exact⟨a,c,ys,h1,hr,Di.TV h3⟩
theorem BJ.below {w G:World} (Z:Below w.heap.size w G):∀ {l:List Ev} {xs:List Value},BJ w l xs->BJ G l xs
 |[],_,h=>h
 |e::l,_,⟨a,c,ys,h1,h2,h3⟩=>⟨a,c,ys,h1,h2.below Z,BJ.below Z h3⟩
theorem Nk (a b c d:Int) (w:World):(binOp .neq 27 (.agg #[I a,I b,I c,I d]) (.agg #[I a,I b,I c,I d])).run Tryz.prog w=.ok (.bool false) w:=by
 go_simp
theorem sG (va vb:Value) (l:List Ev) (ca cb:List Value) (w:World) (hA:Ow.Row w 0 12 va ca) (hB:Ow.Row w 0 12 vb cb) (eA:BJ w l ca) (eB:BJ w l cb):
 zk 14 #[va,vb] w fun e G=>e=.returned (.bool true)∧Below w.heap.size w G:=by
 obtain⟨a,n,cap,rfl,hn,hc,hm,ha⟩:=hA;obtain⟨b,n',cap',rfl,hn',hc',hm',Z⟩:=hB;rw[eA.len] at hn;rw[eB.len] at hn';obtain rfl:n=n':=by omega
 have HX:Hid (l.length=n):=by exact (by omega:l.length=n)
 have EA:=U eA;have EB:=U eB;unfold maxLen at hm;have hmax:n<=9223372036854775807:=by omega
 clear hn hn' hm hm' hc hc' eA eB;go_enter Tryz.func14,Tryz.ntmps14;go_wp2
 go_loopw [5] (fun i wr=>(∃ k:Nat,k<=n∧i=I k)∧Below w.heap.size w wr) (fun i _=>n - (intOf i).toNat)
 case atStart=>exact⟨⟨0,by omega,rfl⟩,Below.refl _ _⟩
 case round=>
  obtain⟨⟨k,V,rfl⟩,hbel⟩:=hrel
  by_cases hlt:k<n
  . rcases ha with ha|⟨g,off,rfl,_,hg,hcell⟩
    . omega
    rcases Z with Z|⟨g',off',rfl,_,hg',hcell'⟩
    . omega
    obtain⟨e,he⟩:∃ e,l[k]? =some e:=⟨_,zx (by rw[HX.out];exact hlt)⟩
    obtain⟨a1,c1,r1,s1⟩:=EA.out.at_ k e he;obtain⟨a2,c2,r2,s2⟩:=EB.out.at_ k e he;have i1:(0:Int)<=(k:Int):=by omega
    have i2:(k:Int)<(n:Int):=by omega
    obtain⟨pn,hpn⟩:∃ pn,pn=e.res.aB.length:=⟨_,rfl⟩
    rw[<-hpn] at r1 r2 s1 s2;have S1:Hid (∀ G,Below wr.heap.size wr G->Ow.Row G 0 2 (.slice a1 pn c1) (bI e.res.aB)):=fun G Z=>s1.below (hbel.trans (Z.mono hbel.size))
    have S2:Hid (∀ G,Below wr.heap.size wr G->Ow.Row G 0 2 (.slice a2 pn c2) (bI e.res.aB)):=fun G Z=>s2.below (hbel.trans (Z.mono hbel.size))
    have kA:∀ G,Below wr.heap.size wr G->∀ j,j<12->G.cell? (J g (off+(k*12+j)))=(lK e (.slice a1 pn c1))[j]? :=fun G Z j hj=>by rw[(hbel.trans (Z.mono hbel.size)).cell (p:=(J g (off+(k*12+j)))) hg,hcell (k*12+j) (by omega)];exact r1 j hj
    have kB:∀ G,Below wr.heap.size wr G->∀ j,j<12->G.cell? (J g' (off'+(k*12+j)))=(lK e (.slice a2 pn c2))[j]? :=fun G Z j hj=>by rw[(hbel.trans (Z.mono hbel.size)).cell (p:=(J g' (off'+(k*12+j)))) hg',hcell' (k*12+j) (by omega)];exact r2 j hj
    have HK:Hid (∀ G,Below wr.heap.size wr G->G.cell? ⟨g,off+k*12,none⟩=zt e.kind∧G.cell? ⟨g,off+k*12+1,none⟩=zt e.t∧G.cell? ⟨g,off+k*12+2,none⟩=zv e.n∧G.cell? ⟨g,off+k*12+3,none⟩=zt e.op.kind∧G.cell? ⟨g,off+k*12+4,none⟩=zt e.op.E∧G.cell? ⟨g,off+k*12+5,none⟩=zt e.op.hi∧G.cell? ⟨g,off+k*12+6,none⟩=zt e.op.value∧G.cell? ⟨g,off+k*12+7,none⟩=zt e.res.e∧G.cell? ⟨g,off+k*12+8,none⟩=zt e.res.value∧G.cell? ⟨g,off+k*12+9,none⟩=some (.slice a1 pn c1)∧G.cell? ⟨g,off+k*12+10,none⟩=zt e.res.over∧G.cell? ⟨g,off+k*12+11,none⟩=zt e.res.ay∧G.cell? ⟨g',off'+k*12,none⟩=zt e.kind∧G.cell? ⟨g',off'+k*12+1,none⟩=zt e.t∧G.cell? ⟨g',off'+k*12+2,none⟩=zv e.n∧G.cell? ⟨g',off'+k*12+3,none⟩=zt e.op.kind∧G.cell? ⟨g',off'+k*12+4,none⟩=zt e.op.E∧G.cell? ⟨g',off'+k*12+5,none⟩=zt e.op.hi∧G.cell? ⟨g',off'+k*12+6,none⟩=zt e.op.value∧G.cell? ⟨g',off'+k*12+7,none⟩=zt e.res.e∧G.cell? ⟨g',off'+k*12+8,none⟩=zt e.res.value∧G.cell? ⟨g',off'+k*12+9,none⟩=some (.slice a2 pn c2)∧G.cell? ⟨g',off'+k*12+10,none⟩=zt e.res.over∧G.cell? ⟨g',off'+k*12+11,none⟩=zt e.res.ay):=fun G Z=>by
     have A1:=kA G Z;have B1:=kB G Z;exact⟨A1 0 (by omega),A1 1 (by omega),A1 2 (by omega),A1 3 (by omega),A1 4 (by omega),A1 5 (by omega),A1 6 (by omega),A1 7 (by omega),A1 8 (by omega),A1 9 (by omega),A1 10 (by omega),A1 11 (by omega),B1 0 (by omega),B1 1 (by omega),B1 2 (by omega),B1 3 (by omega),B1 4 (by omega),B1 5 (by omega),B1 6 (by omega),B1 7 (by omega),B1 8 (by omega),B1 9 (by omega),B1 10 (by omega),B1 11 (by omega)⟩
    have HB:=U hbel;clear hpn he r1 r2 s1 s2 kA kB hcell hcell' hbel hg hg';generalize (e.kind:Int)=z0 at*;generalize (e.t:Int)=z1 at*;generalize (e.n:Int)=z2 at*;generalize (e.op.kind:Int)=z3 at*;generalize (e.op.E:Int)=z4 at*;generalize (e.op.hi:Int)=z5 at*;generalize (e.op.value:Int)=z6 at*;generalize (e.res.e:Int)=z7 at*;generalize (e.res.value:Int)=z8 at*;generalize (e.res.over:Int)=FH at*;generalize (e.res.ay:Int)=Jp at*;generalize e.res.aB=ps at*;have hop:=Nk z3 z4 z5 z6;obtain⟨y0,y1,y2,y3,y4,y5,y6,y7,y8,y9,IM,NG,Vi,y13,Vj,Vk,Vl,Vm,Vn,Vo,y20,y21,y22,y23⟩:=HK.out wr (Below.refl _ _);go_upto_region 6 with fail
    go_region_held3 (fun G=>G.cell? ⟨g,off+k*12,none⟩=zt z0∧G.cell? ⟨g,off+k*12+1,none⟩=zt z1∧G.cell? ⟨g,off+k*12+2,none⟩=zv z2∧G.cell? ⟨g,off+k*12+3,none⟩=zt z3∧G.cell? ⟨g,off+k*12+4,none⟩=zt z4∧G.cell? ⟨g,off+k*12+5,none⟩=zt z5∧G.cell? ⟨g,off+k*12+6,none⟩=zt z6∧G.cell? ⟨g,off+k*12+7,none⟩=zt z7∧G.cell? ⟨g,off+k*12+8,none⟩=zt z8∧G.cell? ⟨g,off+k*12+9,none⟩=some (.slice a1 pn c1)∧G.cell? ⟨g,off+k*12+10,none⟩=zt FH∧G.cell? ⟨g,off+k*12+11,none⟩=zt Jp∧G.cell? ⟨g',off'+k*12,none⟩=zt z0∧G.cell? ⟨g',off'+k*12+1,none⟩=zt z1∧G.cell? ⟨g',off'+k*12+2,none⟩=zv z2∧G.cell? ⟨g',off'+k*12+3,none⟩=zt z3∧G.cell? ⟨g',off'+k*12+4,none⟩=zt z4∧G.cell? ⟨g',off'+k*12+5,none⟩=zt z5∧G.cell? ⟨g',off'+k*12+6,none⟩=zt z6∧G.cell? ⟨g',off'+k*12+7,none⟩=zt z7∧G.cell? ⟨g',off'+k*12+8,none⟩=zt z8∧G.cell? ⟨g',off'+k*12+9,none⟩=some (.slice a2 pn c2)∧G.cell? ⟨g',off'+k*12+10,none⟩=zt FH∧G.cell? ⟨g',off'+k*12+11,none⟩=zt Jp)
     (first|exact⟨y0,y1,y2,y3,y4,y5,y6,y7,y8,y9,IM,NG,Vi,y13,Vj,Vk,Vl,Vm,Vn,Vo,y20,y21,y22,y23⟩|assumption|go_keep|exact HK.out _ (by assumption)|exact HK.out _ (Below.drew (Below.refl _ _)))
     (first|(go_at_call 12;refine (oI z7 z8 FH Jp a1 a2 pn c1 c2 ps _ (S1.out _ (Below.drew (Below.refl _ _))) (S2.out _ (Below.drew (Below.refl _ _)))).mono ?_;rintro e w6 ⟨rfl,hb6⟩;have hq:=(Below.drew (Below.refl wr.heap.size wr)).trans hb6))
    have HQ:=U hq;clear hq;go_wp2_with fail;exact⟨⟨⟨k+1,by omega,by go_num⟩,HB.out.trans (HQ.out.mono HB.out.size)⟩,by simp[intOf];omega⟩
  . obtain rfl:k=n:=by omega
    go_wp2_with fail;go_ret;exact⟨rfl,hbel⟩
section
variable {B:qQ} {Y:Nat} {w0 w G:World} {ks:List Kept} {W:Wd}
theorem WK.ge (h:WK B Y w0 ks W w) {b:Nat} {r:bN} (Z:B.M b=some r):w0.heap.size<=b:=by
 obtain⟨A,rfl,l,r',g,t⟩:=h.ex
 rcases Nat.lt_or_ge b w0.heap.size with h1|h1
 . have:=r'.tie b r Z
   rw[g.lab _ h1] at this;cases this
 . exact h1
end
def KS (n l:Nat):Wd:={D:=new n l,BH:=[],ids:=List.replicate 8 0,ops:=List.replicate 8 ⟨0,0,0,0⟩,gone:=[]}
theorem Nl {Y:Nat} {w0 w:World} {D:St} (h:Pp Y w0 [] D w):WK ⟨gU (fun _=>none) w.heap.size .eH,w.heap.size,.slice none 0 0,.slice none 0 0,[],fun _=>[]⟩ Y w0 [] {D:=D,BH:=[],ids:=List.replicate 8 0,ops:=List.replicate 8 ⟨0,0,0,0⟩,gone:=[]} (w.alloc (.cells (zg Y ⟨gU (fun _=>none) w.heap.size .eH,w.heap.size,.slice none 0 0,.slice none 0 0,[],fun _=>[]⟩ {D:=D,BH:=[],ids:=List.replicate 8 0,ops:=List.replicate 8 ⟨0,0,0,0⟩,gone:=[]}).toArray 38)):=by
 obtain⟨A,rfl,l,g,_⟩:=h.ex;obtain⟨_,g1,t1,t2⟩:=l.rep.lg (.cells (zg A.Y ⟨gU (fun _=>none) w.heap.size .eH,w.heap.size,.slice none 0 0,.slice none 0 0,[],fun _=>[]⟩ {D:=D,BH:=[],ids:=List.replicate 8 0,ops:=List.replicate 8 ⟨0,0,0,0⟩,gone:=[]}).toArray 38);refine⟨A.tmp w.heap.size,rfl,l.lg _,⟨fun b r Z=>?_,⟨fun q=>?_,fun b Z=>?_⟩,(fun k p V=>by cases V),rfl,rfl,rfl⟩,g.trans g1,KW.nil⟩
 . by_cases hbb:b=w.heap.size
   . subst hbb;exact t1
   . replace Z:gU (fun _=>none) w.heap.size bN.eH b=some r:=Z
     rw[di hbb] at Z;cases Z
 . cases q with
   |eH=>exact⟨(gH _ _ _:gU (fun _=>none) w.heap.size bN.eH w.heap.size=_),t2⟩
   |aP=>exact⟨World.ownsRow_nil _ _ _ _,fun g hg=>by cases hg⟩
   |free=>exact⟨World.ownsRow_nil _ _ _ _,fun g hg=>by cases hg⟩
   |reads k=>exact trivial
   |_=>exact trivial
 . have:w.heap.size+1<=b:=by simpa using Z
   exact (di (by omega):gU (fun _=>none) w.heap.size bN.eH b=none)
theorem IB (n l:Nat) (h1:1<=n) (h2:n<=256) (h3:1<=l) (h4:l<=1099511627776) (w:World):
 zk 7 #[I n,zu l] w fun e G=>∃ B Y,e=.returned (R B.bw 0)∧WK B Y w [] (KS n l) G:=by
 have HN:Hid (zk 37 #[.agg #[I n,zu l]] w fun e G=>∃ b,e=.returned (.tuple #[R b 0,I 0])∧Pp b w [] (new n l) G):=(MM n l h1 h2 h3 h4 w).mono fun e G ⟨b,h,q⟩=>⟨b,h,q.kt⟩
 clear h1 h2 h3 h4;go_enter Tryz.func7,Tryz.ntmps7;go_wp2_with (go_at_call 37;refine HN.out.mono ?_;rintro e H ⟨Y,rfl,q⟩;have T1:=U q;clear q);go_ret;exact⟨_,_,rfl,Nl T1.out⟩
end Go.Proofs.YthicolbbmjfkfaaGreat.Em
