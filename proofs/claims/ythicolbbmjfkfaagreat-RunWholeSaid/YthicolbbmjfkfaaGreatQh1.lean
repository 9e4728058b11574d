import Derived.Test.YthicolbbmjfkfaaGreatQh0
import Derived.Test.YthicolbbmjfkfaaGreatProg
import Derived.WalkKit
import Derived.ProofKit
import Derived.Laws.AppendOwn
import Derived.Laws.NewBlocks
import Derived.Laws.CopyOwn
import Derived.Laws.OwnMore
import Derived.Deep.Quiet
import Derived.Deep.MidRow
set_option linter.unusedVariables false
set_option linter.unusedSimpArgs false
set_option maxRecDepth 100000
set_option maxHeartbeats 1600000
namespace Go.Proofs.YthicolbbmjfkfaaGreat.Em
open Go.ChangeShapes Go.WideShapes Go.ChangeAt Go.RowKit
inductive bN where
 |eH|arena|words|bK|tags|free|values|aP|cut
 |dZ (s:Nat)|map (s:Nat)|cell (s E:Nat)|keys (s:Nat)|reads (s:Nat)|aJ (s:Nat)|call (s:Nat)|aB (s:Nat)|tmp
 deriving DecidableEq
abbrev cZ:=Nat->Option bN
def gU (L:cZ) (b:Nat) (r:bN):cZ:=fun k=>if k=b then some r else L k
theorem gH (L:cZ) (b:Nat) (r:bN):gU L b r b=some r:=aV rfl
theorem di {L:cZ} {b k:Nat} {r:bN} (h:k≠b):gU L b r k=L k:=aX h
structure Grow (L:cZ) (w:World) (L':cZ) (G:World):Prop where
 os:G.os=w.os
 tape:G.tape=w.tape
 output:G.output=w.output
 size:w.heap.size<=G.heap.size
 block:∀ b,b<w.heap.size->L b=none->G.heap[b]? =w.heap[b]?
 lab:∀ b,b<w.heap.size->L' b=L b
 keep:∀ b,b<w.heap.size->L b=some .tmp->G.heap[b]? =w.heap[b]?
theorem Grow.refl (L:cZ) (w:World):Grow L w L w:=⟨rfl,rfl,rfl,zr _,fun _ _ _=>rfl,fun _ _=>rfl,fun _ _ _=>rfl⟩
theorem Grow.trans {L L1 L2:cZ} {w H w2:World} (h:Grow L w L1 H) (k:Grow L1 H L2 w2):Grow L w L2 w2:=
 ⟨k.os.trans h.os, k.tape.trans h.tape, k.output.trans h.output, eP h.size k.size,
   fun b Z hl=>(k.block b (qW Z h.size) (by rw[h.lab b Z];exact hl)).trans (h.block b Z hl),
   fun b Z=>(k.lab b (qW Z h.size)).trans (h.lab b Z),
   fun b Z hl=>(k.keep b (qW Z h.size) (by rw[h.lab b Z];exact hl)).trans (h.keep b Z hl)⟩
theorem Grow.alloc (L:cZ) (w:World) (o:Obj):Grow L w L (w.alloc o):=⟨rfl,rfl,rfl,by simp,fun b Z _=>Below.heap_alloc w o b Z,fun _ _=>rfl,fun b Z _=>Below.heap_alloc w o b Z⟩
theorem Grow.drew (L:cZ) (w:World):Grow L w L w.drew:=⟨rfl,rfl,rfl,zr _,fun _ _ _=>rfl,fun _ _=>rfl,fun _ _ _=>rfl⟩
theorem zG (L:cZ) (w:World):Hid (Grow L w L w.drew):=Grow.drew L w
theorem Grow.drewN (L:cZ) (w:World) (n:Nat):Grow L w L (w.drewN n):=⟨rfl,rfl,rfl,zr _,fun _ _ _=>rfl,fun _ _=>rfl,fun _ _ _=>rfl⟩
theorem Grow.setCell {L:cZ} {w:World} {a:Addr} (h:w.heap.size<=a.block∨(L a.block≠none∧L a.block≠some .tmp)) (v:Value):Grow L w L (w.setCell a v):=
 ⟨rfl,rfl,rfl,by simp[World.setCell],fun b Z hl=>Below.heap_setCell _ _ _ _ (by rintro rfl;rcases h with h|h;exact absurd Z (by omega);exact h.1 hl),fun _ _=>rfl,fun b Z hl=>Below.heap_setCell _ _ _ _ (by rintro rfl;rcases h with h|h;exact absurd Z (by omega);exact h.2 hl)⟩
theorem Grow.gU {L L':cZ} {w G:World} (h:Grow L w L' G) {b:Nat} (Z:w.heap.size<=b) (r:bN):Grow L w (gU L' b r) G:=
 ⟨h.os,h.tape,h.output,h.size,h.block,fun k V=>(di (by omega)).trans (h.lab k V),h.keep⟩
theorem Grow.below {L:cZ} {w G:World} (h:Below w.heap.size w G):Grow L w L G:=⟨h.os,h.tape,h.output,h.size,fun b Z _=>h.block b Z,fun _ _=>rfl,fun b Z _=>h.block b Z⟩
theorem Grow.grown {L:cZ} {w G:World} {row:Option Nat} (h:w.grownBy G row) (hr:∀ g,row=some g->L g≠none∧L g≠some .tmp):Grow L w L G:=
 ⟨h.os,h.tape,h.output,h.size,fun b Z hl=>h.block b Z (fun e=>(hr b e.symm).1 hl),fun _ _=>rfl,fun b Z hl=>h.block b Z (fun e=>(hr b e.symm).2 hl)⟩
def Fix (L:cZ) (w:World) (b:Nat) (o:Obj):Prop:=L b=none∧w.heap[b]? =some o
theorem eQ {w:World} {g:Nat} {o:Obj} (h:w.heap[g]? =some o):g<w.heap.size:=(Array.getElem?_eq_some_iff.1 h).1
theorem Fix.grow {L L':cZ} {w G:World} {b:Nat} {o:Obj} (h:Fix L w b o) (g:Grow L w L' G):Fix L' G b o:=
 ⟨(g.lab b (eQ h.2)).trans h.1,(g.block b (eQ h.2) h.1).trans h.2⟩
theorem Fix.alloc {L:cZ} {w:World} {o:Obj} (h:L w.heap.size=none):Fix L (w.alloc o) w.heap.size o:=⟨h,heap_alloc_new w o⟩
def aK (L:cZ) (w:World) (b:Nat) (v:Value):Prop:=∃ T,Fix L w b (.cells #[v] T)
theorem aK.grow {L L':cZ} {w G:World} {b:Nat} {v:Value} (h:aK L w b v) (g:Grow L w L' G):aK L' G b v:=let ⟨T,h⟩:=h;⟨T,h.grow g⟩
theorem aK.cell {L:cZ} {w:World} {b:Nat} {v:Value} (h:aK L w b v):w.cell? (J b 0)=some v:=by
 obtain⟨T,h1,h2⟩:=h;rw[cell_of_row w b 0 _ _ _ h2];rfl
inductive Entry where
 |none
 |obj (b:Nat) (cs:List Value) (T:TypeId)
 |own (v:Value) (e:TypeId) (size n:Nat) (xs:List Value)
 |map (b:Nat) (es:List MapEntry) (clock:Nat)
def Entry.Holds (L:cZ) (w:World) (r:bN):Entry->Prop
 |.none=>True
 |.obj b cs T=>L b=some r∧w.heap[b]? =some (.cells cs.toArray T)
 |.own v e size n xs=>w.ownsRow 0 e size v n xs∧∀ g,v.ownBlock=some g->L g=some r
 |.map b es clock=>L b=some r∧w.heap[b]? =some (.map es.toArray clock)
theorem mi {w G:World} {base:Nat} {e:TypeId} {size:Nat} {v:Value} {n:Nat} {xs:List Value} (h:w.ownsRow base e size v n xs) (hs:∀ g,v.ownBlock=some g->G.heap[g]? =w.heap[g]?):G.ownsRow base e size v n xs:=by
 refine⟨h.1,?_⟩
 rcases h.2 with h0|⟨g,cap,cur,rfl,h2,h3,h4⟩
 . exact .inl h0
 . exact .inr ⟨g,cap,cur,rfl,h2,by rw[hs g rfl];exact h3,h4⟩
theorem Entry.Holds.frame {L L':cZ} {w G:World} {r:bN} {e:Entry} (h:e.Holds L w r) (hs:∀ b,b<w.heap.size->L b=some r->G.heap[b]? =w.heap[b]?) (hl:∀ b,b<w.heap.size->L' b=L b):e.Holds L' G r:=by
 cases e with
 |none=>trivial
 |obj b cs T=>exact⟨(hl b (eQ h.2)).trans h.1,(hs b (eQ h.2) h.1).trans h.2⟩
 |map b es c=>exact⟨(hl b (eQ h.2)).trans h.1,(hs b (eQ h.2) h.1).trans h.2⟩
 |own v e size n xs=>
  exact⟨mi h.1 fun g hg=>hs g (h.1.lt g hg).2 (h.2 g hg),fun g hg=>(hl g (h.1.lt g hg).2).trans (h.2 g hg)⟩
structure Holds (L:cZ) (w:World) (m:bN->Entry):Prop where
 all:∀ r,(m r).Holds L w r
 fresh:∀ b,w.heap.size<=b->L b=none
theorem Holds.grow {L L':cZ} {w G:World} {m:bN->Entry} (h:Holds L w m) (hs:∀ b r,b<w.heap.size->L b=some r->G.heap[b]? =w.heap[b]?) (hl:∀ b,b<w.heap.size->L' b=L b) (hf:∀ b,G.heap.size<=b->L' b=none):Holds L' G m:=
 ⟨fun r=>(h.all r).frame (fun b Z hr=>hs b r Z hr) hl,hf⟩
theorem Holds.below {L:cZ} {w G:World} {m:bN->Entry} (h:Holds L w m) (Z:Below w.heap.size w G):Holds L G m:=
 h.grow (fun b r hl _=>Z.block b hl) (fun _ _=>rfl) (fun b hl=>h.fresh b (eP Z.size hl))
theorem Holds.upd {L L':cZ} {w G:World} {m m':bN->Entry} (h:Holds L w m) (r:bN) (hr:(m' r).Holds L' G r) (hm:∀ q,q≠r->m' q=m q)
 (hs:∀ b q,b<w.heap.size->L b=some q->q≠r->G.heap[b]? =w.heap[b]?) (hl:∀ b,b<w.heap.size->L' b=L b) (hf:∀ b,G.heap.size<=b->L' b=none):Holds L' G m':=by
 refine⟨fun q=>?_,hf⟩
 by_cases hq:q=r
 . subst hq;exact hr
 . rw[hm q hq]
   exact (h.all q).frame (fun b Z he=>hs b q Z he hq) hl
theorem Holds.set {L:cZ} {w:World} {m m':bN->Entry} (h:Holds L w m) (r:bN) {b:Nat} {cs:List Value} {T:TypeId} (he:m r=.obj b cs T) (i:Nat) (v:Value) (he':m' r=.obj b (cs.set i v) T) (hm:∀ q,q≠r->m' q=m q):
 Holds L (w.setCell (J b i) v) m':=by
 have k:=h.all r;rw[he] at k;refine h.upd r ?_ hm (fun c q hc hl hq=>Below.heap_setCell _ _ _ _ ?_) (fun _ _=>rfl) (fun c hc=>h.fresh c (by simpa [World.setCell] using hc))
 . rw[he']
   refine⟨k.1,?_⟩;have:=k.2;simp only[World.setCell,Array.getElem?_modify,this];simp
 . rintro rfl
   rw[k.1] at hl;exact hq (zj hl).symm
theorem Holds.cell {L:cZ} {w:World} {m:bN->Entry} (h:Holds L w m) {r:bN} {b:Nat} {cs:List Value} {T:TypeId} (he:m r=.obj b cs T) (i:Nat) {v:Value} (hv:cs[i]? =some v):w.cell? (J b i)=some v:=by
 have k:=h.all r;rw[he] at k;rw[cell_of_row w b i _ _ _ k.2]
 simpa using hv
theorem Holds.frozen {L:cZ} {w:World} {m:bN->Entry} (h:Holds L w m) {r:bN} {b:Nat} {cs:List Value} {T:TypeId} (he:m r=.obj b cs T) (i:Nat):w.frozen? (J b i)=false:=by
 have k:=h.all r;rw[he] at k;simp[World.frozen?,k.2]
theorem Holds.lab {L:cZ} {w:World} {m:bN->Entry} (h:Holds L w m) {r:bN} {b:Nat} {cs:List Value} {T:TypeId} (he:m r=.obj b cs T):L b=some r:=by
 have k:=h.all r;rw[he] at k;exact k.1
theorem Holds.cK {L:cZ} {w:World} {m:bN->Entry} (h:Holds L w m) {r:bN} {b:Nat} {cs:List Value} {T:TypeId} (he:m r=.obj b cs T) (i:Nat) (v:Value) (hr:r≠.tmp:=by simp):Grow L w L (w.setCell (J b i) v):=
 Grow.setCell (.inr (by show L b≠none∧L b≠some .tmp;rw[h.lab he];simpa using hr)) v
end Go.Proofs.YthicolbbmjfkfaaGreat.Em
namespace Go.Proofs.YthicolbbmjfkfaaGreat.Em
open Go.ChangeShapes Go.WideShapes Go.ChangeAt Go.RowKit
def gI (m:bN->Entry) (r:bN) (e:Entry):bN->Entry:=fun q=>if q=r then e else m q
theorem iq (m:bN->Entry) (r:bN) (e:Entry):gI m r e r=e:=aV rfl
theorem bJ (m:bN->Entry) {r q:bN} (e:Entry) (h:q≠r):gI m r e q=m q:=aX h
theorem Holds.put {L:cZ} {w:World} {m:bN->Entry} (h:Holds L w m) (r:bN) {b:Nat} {cs:List Value} {T:TypeId} (he:m r=.obj b cs T) (i:Nat) (v:Value):
 Holds L (w.setCell (J b i) v) (gI m r (.obj b (cs.set i v) T)):=h.set r he i v (iq _ _ _) fun q hq=>bJ m _ hq
theorem Holds.IU {L:cZ} {w:World} {m:bN->Entry} (h:Holds L w m) {a:Addr} (ha:L a.block=none) (v:Value):Holds L (w.setCell a v) m:=
 h.grow (fun b r Z hl=>Below.heap_setCell _ _ _ _ (by rintro rfl;rw[ha] at hl;cases hl)) (fun _ _=>rfl) (fun b Z=>h.fresh b (by simpa [World.setCell] using Z))
theorem Holds.Dm {L:cZ} {w:World} {m:bN->Entry} (h:Holds L w m) (r:bN) {b:Nat} (Z:L b=none) (e:Entry) (he:e.Holds (gU L b r) w r) (hlt:b<w.heap.size):Holds (gU L b r) w (gI m r e):=by
 refine⟨fun q=>?_,fun c hc=>?_⟩
 . by_cases hq:q=r
   . subst hq;rw[iq];exact he
   . rw[bJ m _ hq]
     have k:=h.all q
     cases hm:m q with
     |none=>trivial
     |obj c cs T=>rw[hm] at k;exact⟨by rw[di (by rintro rfl;have k1:=k.1;rw[Z] at k1;cases k1)];exact k.1,k.2⟩
     |map c cs T=>rw[hm] at k;exact⟨by rw[di (by rintro rfl;have k1:=k.1;rw[Z] at k1;cases k1)];exact k.1,k.2⟩
     |own v e size n xs=>
      rw[hm] at k;refine⟨k.1,fun g hg=>?_⟩;have:=k.2 g hg;rw[di (by rintro rfl;rw[Z] at this;cases this)];exact this
 . rw[di (by omega)]
   exact h.fresh c hc
def tF (L:cZ) (v:Value) (r:bN):cZ:=fun k=>if v.ownBlock=some k then some r else L k
theorem Holds.grown {L:cZ} {w G:World} {m:bN->Entry} (h:Holds L w m) (r:bN) {v v':Value} {e:TypeId} {size n n':Nat} {xs xs':List Value} (he:m r=.own v e size n xs)
 (hg:w.grownBy G v.ownBlock) (ho:G.ownsRow 0 e size v' n' xs') (hw:v'.ownBlock=v.ownBlock∨∀ g,v'.ownBlock=some g->w.heap.size<=g) (hrt:r≠.tmp:=by simp):
 Holds (tF L v' r) G (gI m r (.own v' e size n' xs'))∧Grow L w (tF L v' r) G:=by
 have k:=h.all r;rw[he] at k;have hlab:∀ b,b<w.heap.size->tF L v' r b=L b:=by
  intro b Z;unfold tF
  split
  . rename_i hv
    rcases hw with hw|hw
    . rw[hw] at hv;exact (k.2 b hv).symm
    . exact absurd (hw b hv) (by omega)
  . rfl
 refine⟨h.upd r ?_ (fun q hq=>bJ m _ hq) (fun b q Z hl hq=>hg.block b Z ?_) hlab (fun b Z=>?_),⟨hg.os,hg.tape,hg.output,hg.size,fun b Z hl=>hg.block b Z ?_,hlab,fun b Z hl=>hg.block b Z ?_⟩⟩
 . rw[iq]
   exact⟨ho,fun g hg=>aV hg⟩
 . intro e2
   rw[k.2 b e2.symm] at hl;exact hq (zj hl).symm
 . unfold tF
   rw[aX]
   . exact h.fresh b (eP hg.size Z)
   . intro e2
     have:=(ho.lt b e2).2;omega
 . intro e2
   rw[k.2 b e2.symm] at hl
   cases hl
 . intro e2
   rw[k.2 b e2.symm] at hl;exact hrt (zj hl)
theorem Holds.shrink {L:cZ} {w:World} {m:bN->Entry} (h:Holds L w m) (r:bN) {v v':Value} {e:TypeId} {size n n':Nat} {xs xs':List Value} (he:m r=.own v e size n xs)
 (ho:w.ownsRow 0 e size v' n' xs') (hv:v'.ownBlock=v.ownBlock∨v'.ownBlock=none):Holds L w (gI m r (.own v' e size n' xs')):=by
 have k:=h.all r;rw[he] at k;refine h.upd r ?_ (fun q hq=>bJ m _ hq) (fun b q Z hl hq=>rfl) (fun _ _=>rfl) h.fresh;rw[iq];refine⟨ho,fun g hg=>?_⟩
 rcases hv with hv|hv
 . exact k.2 g (hv ▸ hg)
 . rw[hv] at hg;cases hg
def dQ (L:cZ) (w:World) (size:Nat) (v:Value) (xs:List Value):Prop:=
 ∃ a n cap,v=.slice a n cap∧xs.length=n*size∧n<=cap∧cap<=maxLen∧(n=0∨∃ g off,a=za g off∧L g=none∧g<w.heap.size∧∀ j,j<n*size->w.cell? (J g (off+j))=xs[j]?)
theorem dQ.nil (L:cZ) (w:World) (size:Nat):dQ L w size (.slice none 0 0) []:=⟨none,0,0,rfl,by simp,by omega,by unfold maxLen;omega,.inl rfl⟩
theorem dQ.grow {L L':cZ} {w G:World} {size:Nat} {v:Value} {xs:List Value} (h:dQ L w size v xs) (g:Grow L w L' G):dQ L' G size v xs:=by
 obtain⟨a,n,cap,h1,h2,h3,h4,h5⟩:=h;refine⟨a,n,cap,h1,h2,h3,h4,?_⟩
 rcases h5 with h5|⟨b,off,e1,e2,e3,e4⟩
 . exact .inl h5
 . refine .inr ⟨b,off,e1,(g.lab b e3).trans e2,qW e3 g.size,fun j hj=>?_⟩
   rw[World.cell?_of_block (w:=w) (a:=(J b (off+j))) (g.block b e3 e2)];exact e4 j hj
end Go.Proofs.YthicolbbmjfkfaaGreat.Em
namespace Go.Proofs.YthicolbbmjfkfaaGreat.En
structure Op where
 kind:Nat
 E:Nat
 hi:Nat
 value:Nat
 deriving Repr,DecidableEq,Inhabited
structure ic where
 e:Nat:=0
 value:Nat:=0
 aB:List (Nat×Nat):=[]
 over:Nat:=0
 ay:Nat:=0
 deriving Repr,DecidableEq,Inhabited
structure Ev where
 kind:Nat
 t:Nat
 n:Nat:=0
 op:Op:=⟨0,0,0,0⟩
 res:ic:={}
 deriving Repr,DecidableEq,Inhabited
structure jr where
 own:Nat
 old:Nat
 there:Bool
 deriving Repr,DecidableEq,Inhabited
structure bB where
 id:Nat
 ak:Nat
 aG:Nat
 ax:Nat
 ops:Nat
 keys:List Nat
 cells:List (Nat×jr)
 reads:List (Nat×Nat×Bool)
 aJ:List Nat
 over:Bool
 deriving Repr,DecidableEq,Inhabited
inductive Ls where
 |get
 |scan (E:Nat)
 |change
 |judge (i F:Nat)
 deriving Repr,DecidableEq,Inhabited
structure dw where
 E:Nat
 at_:Nat
 thn:Ls
 deriving Repr,DecidableEq,Inhabited
structure wG where
 at_:Nat
 old:Nat
 new:Nat
 deriving Repr,DecidableEq,Inhabited
inductive K where
 |fin (r:ic)
 |start (h:dw)
 |visit (h:dw) (F:Nat)
 |older (h:dw) (F:Nat)
 |maker (h:dw) (F id:Nat)
 |ended (h:dw) (F jJ:Nat)
 |eY (h:dw) (F jJ id:Nat)
 |seen (h:dw) (F jJ:Nat)
 |again (ax:Nat)
 |own (F:Nat)
 |fG (F w id:Nat)
 |claim (F w:Nat)
 |fresh (F:Nat)
 |next (F head at_:Nat)
 |free (F head at_:Nat)
 |dB (F head at_ id:Nat)
 |dX (x:Bool) (F head:Nat)
 |dM (x:Bool) (F head:Nat)
 |push (F head:Nat)
 |dC (F head:Nat)
 |over (F:Nat)
 |fU (F head:Nat)
 |dI (F head:Nat)
 |draw
 |dJ (w now:Nat)
 |turn (w now:Nat)
 |dD
 |wait (i:Nat)
 |turns (l:List wG) (r:ic)
 |bO
 |abort (e ay:Nat)
 deriving Repr,DecidableEq,Inhabited
structure dF where
 op:Op
 k:Option K
 r:ic
 waits:Bool
 over:Bool
 seq:Nat
 deriving Repr,DecidableEq,Inhabited
inductive S where
 |live (s:Nat)
 |head (E:Nat)
 |visit (E bZ F:Nat)
 |maker (E bZ F id:Nat)
 |lM (E bZ F aG:Nat)
 |on (E F:Nat)
 |unlink (E bZ F:Nat)
 |cut (E bZ F next:Nat)
 |now
 deriving Repr,DecidableEq,Inhabited
structure St where
 aC:Nat
 limit:Nat
 words:List Nat
 count:Nat
 tags:List (Nat×Bool)
 free:List Nat
 iA:Nat
 listed:Bool
 values:List (Nat×Nat)
 ag:List (Option bB)
 calls:List (Option dF)
 aA:Nat
 seq:Nat
 aL:Nat
 aP:List Ev
 sw:Option S
 low:Nat
 cut:List (Nat×Nat)
 cuts:Nat
 deriving Repr,DecidableEq,Inhabited
def ever:Nat:=2305843009213693952
def mO:Nat:=4611686018427387904
def tm:Nat:=1099511627776
def rd (w:Nat):Nat×Nat:=
 if w<=tm then (1,w) else if w=ever then (3,0) else if mO<w∧w<=mO+65535 then (2,w - mO) else (0,0)
def aj (F:Nat):Nat:=F % 131072 - 1
def af (F w:Nat):Nat:=73+aj F*3+w
def St.place (D:St) (id:Nat):Nat:=73+D.aC*3+id
def pack (state ax:Nat):Nat:=ax*8+state
def bA (w:Nat):Nat:=w % 8
def gD (w:Nat):Nat:=w / 8
def aO (t id:Nat):Nat:=t*65536+id
def ai (w:Nat):Nat:=w / 65536
def aT (w:Nat):Nat:=w % 65536
def St.word (D:St) (i:Nat):Nat:=D.words.getD i 0
def St.tick (D:St):St:={D with count:=D.count+1}
def St.put (D:St) (i v:Nat):St:={D with words:=D.words.set i v,count:=D.count+1}
def St.bP (D:St) (i old new:Nat):St:=if D.word i=old then D.put i new else D.tick
def St.t (D:St) (s:Nat):bB:=((D.ag.getD s none).getD default)
def St.c (D:St) (s:Nat):dF:=((D.calls.getD s none).getD default)
def St.bq (D:St) (s:Nat) (t:bB):St:={D with ag:=D.ag.set s (some t)}
def St.aF (D:St) (s:Nat) (c:dF):St:={D with calls:=D.calls.set s (some c)}
def St.event (D:St) (e:Ev):St:={D with aP:=D.aP++[e]}
def St.bT (D:St) (w:Nat):St:=D.bP (D.place (aT w)) (pack 1 0) (pack 2 (ai w))
def St.bind (D:St) (s tq:Nat):St:=
 if tq∈(D.t s).aJ then D
 else (D.bq s {D.t s with aJ:=(D.t s).aJ++[tq]}).event {kind:=4,t:=(D.t s).id,n:=tq}
def St.read (D:St) (s E F:Nat) (got:Bool):St:=D.bq s {D.t s with reads:=(D.t s).reads++[(E,F,got)]}
def bB.cell (t:bB) (E:Nat):Option jr:=t.cells.lookup E
def St.valueOf (D:St) (F:Nat):Nat:=(D.values.getD (aj F) (0,0)).2
def St.tell (D:St) (s E n:Nat):St:=D.aF s {D.c s with r:={(D.c s).r with aB:=(D.c s).r.aB++[(E,n)]}}
def fA (s:Nat):Nat->St->Nat->St×K
 |0,D,E=>(D,.fin (D.c s).r)
 |n+1,D,E=>
  if (D.c s).op.hi<E then (D,.fin (D.c s).r) else
  match (D.t s).cell E with
  |some x=>fA s n (if x.there then D.tell s E (D.valueOf x.own) else D) (E+1)
  |none=>(D,.start ⟨E,(D.t s).aG,.scan E⟩)
def St.scan (D:St) (s E:Nat):St×K:=fA s ((D.c s).op.hi+1 - E) D E
def bB.needs (t:bB) (r:Nat×Nat×Bool):Bool:=(t.cell r.1).isNone&&(t.ak==3||(t.ak==2&&r.2.2))
def bB.need (t:bB):Nat->Nat->Nat
 |0,i=>i
 |n+1,i=>if i<t.reads.length∧t.needs (t.reads.getD i (0,0,false))=false then t.need n (i+1) else i
def iK (t:bB) (i:Nat):K:=if i=t.aJ.length then .bO else .wait i
def dm (t:bB) (i:Nat):K:=
 let i:=t.need (t.reads.length - i) i
 if i=t.reads.length then iK t 0 else .start ⟨(t.reads.getD i (0,0,false)).1,t.ax,.judge i (t.reads.getD i (0,0,false)).2.1⟩
/- The pool. -/
def St.list (D:St):St:=if D.listed then D else {D with listed:=true,free:=D.free++(List.range D.aC).reverse}
def pJ (i tag:Nat):Nat:=tag*131072+(i+1)
def St.iU (D:St) (i:Nat):Nat:=pJ i (D.tags.getD i (0,false)).1
def St.take (D:St):St×Option Nat:=
 let D:=D.list
 match D.free.getLast? with
 |none=>(D,none)
 |some i=>({D with free:=D.free.dropLast,tags:=D.tags.set i ((D.tags.getD i (0,false)).1,true)},some (D.iU i))
def St.jw (D:St) (F:Nat):Bool:=1<=F % 131072&&F % 131072<=D.aC&&(D.tags.getD (aj F) (0,false)).2&&D.iU (aj F)==F
def St.give (D:St) (F:Nat):St:=
 if D.jw F then
  let i:=aj F
  let tag:=(D.tags.getD i (0,false)).1
  if tag=65535 then {D with tags:=D.tags.set i (tag,false),iA:=D.iA+1}
  else {D with tags:=D.tags.set i (tag+1,false),free:=D.free++[i]}
 else D
def St.slot (D:St) (s:Nat) (x:Bool) (F head:Nat):St×K:=
 match (if F=0 then D.take else (D,some F)) with
 |(D,none)=>(D,.abort 14 5)
 |(D,some F)=>({D with values:=D.values.set (aj F) ((D.c s).op.E,(D.c s).op.value)},.dX x F head)
def St.gT (D:St) (s F head at_:Nat):St×K:=if at_=0 then D.slot s false F head else (D,.free F head at_)
def St.lost (D:St) (F:Nat):St×K:=(if F≠0 then D.give F else D,.abort 14 2)
def mine (t:bB):Nat:=mO+t.id
def St.bF (D:St) (s E:Nat) (x:jr):St:=D.bq s {D.t s with cells:=(E,x)::(D.t s).cells,keys:=(D.t s).keys++[E]}
def upd (l:List (Nat×jr)) (E:Nat) (x:jr):List (Nat×jr):=l.map fun p=>if p.1=E then (E,x) else p
def St.ed (D:St) (s E:Nat) (x:jr):St:=D.bq s {D.t s with cells:=upd (D.t s).cells E x}
def St.x (D:St) (s E:Nat):jr:=((D.t s).cell E).getD default
def St.thn (D:St) (s:Nat) (h:dw) (F:Nat):St×K:=
 match h.thn with
 |.get=>
  let D:=D.read s h.E F (F !=0)
  if F=0 then (D,.fin {e:=11}) else (D,.fin {value:=D.valueOf F})
 |.scan E=>
  let D:=D.read s E F false
  (if F=0 then D else D.tell s E (D.valueOf F)).scan s (E+1)
 |.change=>
  let o:=(D.c s).op
  if F≠0∧o.kind=2 then (D.read s o.E F false,.fin {e:=12})
  else if F=0∧o.kind≠2 then (D.read s o.E F false,.fin {e:=11})
  else if F=0 then (D,.fresh 0)
  else (D,.own F)
 |.judge i l=>
  if F≠l then (D,.abort 14 3) else (D,dm (D.t s) (i+1))
def St.visit (D:St) (s:Nat) (h:dw) (F:Nat):St×K:=if F=0 then D.thn s h 0 else (D,.visit h F)
def St.seen (D:St) (s:Nat) (h:dw) (F jJ:Nat):St×K:=if jJ=0 then D.thn s h F else (D,.seen h F jJ)
def St.jb (D:St) (s:Nat) (h:dw) (F w:Nat):K:=
 if (rd w).1=1∧(rd w).2<=h.at_ then .ended h F 0
 else if (rd w).1≠2∨(rd w).2=(D.t s).id then .older h F
 else .maker h F (rd w).2
def St.bW (D:St) (s:Nat) (e:Ev):St:=if (D.t s).over then D else (D.bq s {D.t s with over:=true}).event e
def St.finish (D:St) (s:Nat) (r:ic):St:=D.aF s {D.c s with r:=r,over:=true}
def dY (D:St) (t:bB):List wG:=
 t.keys.flatMap fun E=>
  let x:=(t.cell E).getD default
  (if x.own≠0 then ⟨af x.own 0,0,t.ax⟩::(if x.there then [] else [⟨af x.own 1,0,t.ax⟩]) else [])
  ++(if x.old≠0 then [⟨af x.old 1,0,t.ax⟩] else [])
def eU (D:St) (t:bB):List wG:=
 t.keys.flatMap fun E=>
  let x:=(t.cell E).getD default
  if x.old≠0 then [⟨af x.old 1,mine t,ever⟩] else []
def St.run (D:St) (s:Nat):K->St×Option K
 |.fin r=>(D.finish s r,none)
 |.start h=>let w:=D.word (9+h.E);let (D,k):=D.tick.visit s h w;(D,some k)
 |.visit h F=>(D.tick,some (D.jb s h F (D.word (af F 0))))
 |.maker h F id=>
  let w:=D.word (D.place id);let D:=D.tick
  if gD w=0∨h.at_<gD w∨bA w=4 then (D,some (.older h F))
  else if bA w=2 then (D,some (.ended h F id))
  else (D,some (.ended h F 0))
 |.older h F=>let w:=D.word (af F 2);let (D,k):=D.tick.visit s h w;(D,some k)
 |.ended h F jJ=>
  let w:=D.word (af F 1);let D:=D.tick
  let r:=rd w
  if r.1=1∧r.2<=h.at_ then (D,some (.older h F))
  else if r.1≠2∨r.2=(D.t s).id then let (D,k):=D.seen s h F jJ;(D,some k)
  else (D,some (.eY h F jJ r.2))
 |.eY h F jJ id=>
  let w:=D.word (D.place id);let D:=D.tick
  if gD w=0∨h.at_<gD w∨bA w=4 then let (D,k):=D.seen s h F jJ;(D,some k)
  else if bA w=2 then (D.bind s id,some (.older h F))
  else (D,some (.older h F))
 |.seen h F jJ=>
  let w:=D.word (D.place jJ);let D:=D.tick
  if bA w=4 then (D,some (.start h))
  else let (D,k):=(if bA w=2 then D.bind s jJ else D).thn s h F;(D,some k)
 |.again ax=>
  let E:=(D.c s).op.E
  let x:=D.x s E
  let D:=D.put (af x.own 1) ax
  let there:=(D.c s).op.kind !=4
  let D:=D.ed s E {x with there:=there}
  let D:=if there then {D with values:=D.values.set (aj x.own) ((D.values.getD (aj x.own) (0,0)).1,(D.c s).op.value)} else D
  (D,some (.fin {}))
 |.own F=>
  let w:=D.word (af F 1);let D:=D.tick
  let r:=rd w
  if r.1=3 then (D,some (.claim F w))
  else if r.1=2 then (D,some (.fG F w r.2))
  else (D,some (.abort 14 2))
 |.fG F w id=>
  let v:=D.word (D.place id);let D:=D.tick
  if bA v≠4 then (D,some (.abort 14 2)) else (D,some (.claim F w))
 |.claim F w=>
  let v:=D.word (af F 1)
  let D:=D.bP (af F 1) w (mine (D.t s))
  if v≠w then (D,some (.own F))
  else
   let D:=D.bF s (D.c s).op.E ⟨0,F,false⟩
   if (D.c s).op.kind=4 then (D,some (.fin {}))
   else let (D,k):=D.slot s true 0 0;(D,some k)
 |.fresh F=>
  let head:=D.word (9+(D.c s).op.E)
  let (D,k):=D.tick.gT s F head head;(D,some k)
 |.next F head at_=>
  let w:=D.word (af at_ 2)
  let (D,k):=D.tick.gT s F head w;(D,some k)
 |.free F head at_=>
  let w:=D.word (af at_ 0);let D:=D.tick
  let r:=rd w
  if r.1=1∧r.2<=(D.t s).aG then (D,some (.next F head at_))
  else if r.1≠2 then let (D,k):=D.lost F;(D,some k)
  else (D,some (.dB F head at_ r.2))
 |.dB F head at_ id=>
  let w:=D.word (D.place id);let D:=D.tick
  if bA w=4∨(0<gD w∧gD w<=(D.t s).aG) then (D,some (.next F head at_))
  else let (D,k):=D.lost F;(D,some k)
 |.dX x F head=>(D.put (af F 0) (mine (D.t s)),some (.dM x F head))
 |.dM x F head=>
  let D:=D.put (af F 1) ever
  (D,some (if x then .over F else .push F head))
 |.push F head=>(D.put (af F 2) head,some (.dC F head))
 |.dC F head=>
  let E:=(D.c s).op.E
  let v:=D.word (9+E)
  let D:=D.bP (9+E) head F
  if v≠head then (D,some (.fresh F))
  else (D.bF s E ⟨F,0,true⟩,some (.fin {}))
 |.over F=>let head:=D.word (9+(D.c s).op.E);(D.tick,some (.fU F head))
 |.fU F head=>(D.put (af F 2) head,some (.dI F head))
 |.dI F head=>
  let E:=(D.c s).op.E
  let v:=D.word (9+E)
  let D:=D.bP (9+E) head F
  if v≠head then (D,some (.over F))
  else (D.ed s E {D.x s E with own:=F,there:=true},some (.fin {}))
 |.draw=>
  let w:=D.word 0;let D:=D.tick
  if D.limit<=ai w then (D,some (.abort 14 6))
  else if aT w=0 then (D,some (.turn w (ai w)))
  else (D,some (.dJ w (ai w)))
 |.dJ w now=>(D.bT w,some (.turn w now))
 |.turn w now=>
  let v:=D.word 0
  let D:=D.bP 0 w (aO (now+1) (D.t s).id)
  if v≠w then (D,some .draw)
  else
   let D:=(D.bq s {D.t s with ax:=now+1}).event {kind:=3,t:=(D.t s).id,n:=now+1}
   (D,some .dD)
 |.dD=>
  let D:=D.bT (aO (D.t s).ax (D.t s).id)
  (D,some (dm (D.t s) 0))
 |.wait i=>
  let v:=D.word (D.place ((D.t s).aJ.getD i 0));let D:=D.tick
  if bA v=3 then (D,some (iK (D.t s) (i+1)))
  else if bA v=4 then (D,some (.abort 14 4))
  else (D.aF s {D.c s with waits:=true},some (.wait i))
 |.bO=>
  let t:=D.t s
  let D:=(D.put (D.place t.id) (pack 3 t.ax)).bW s {kind:=5,t:=t.id}
  (D,some (.turns (dY D t) {over:=3}))
 |.abort e ay=>
  let t:=D.t s
  let D:=(D.put (D.place t.id) (pack 4 t.ax)).bW s {kind:=6,t:=t.id,res:={ay:=ay}}
  (D,some (.turns (eU D t) {e:=e,over:=4,ay:=ay}))
 |.turns [] r=>((D.put (1+s) 0).finish s r,none)
 |.turns (x::l) r=>(if x.old=0 then D.put x.at_ x.new else D.bP x.at_ x.old x.new,some (.turns l r))
def jK (o:Op):Bool:=
 match o.kind with
 |1=>o.E<=63&&o.hi==0&&o.value==0
 |4=>o.E<=63&&o.hi==0&&o.value==0
 |2=>o.E<=63&&o.hi==0&&o.value<=65535
 |3=>o.E<=63&&o.hi==0&&o.value<=65535
 |5=>o.E<=63&&o.E<=o.hi&&o.hi<=63&&o.value==0
 |6=>o.E==0&&o.hi==0&&o.value==0
 |7=>o.E==0&&o.hi==0&&o.value==0
 |_=>false
def iB (o:Op):Bool:=o.kind==6||o.kind==7
def new (aC limit:Nat):St:=
 {aC:=aC,limit:=limit,words:=List.replicate (73+aC*3+2000+1) 0,count:=0,tags:=List.replicate aC (0,false),free:=[],iA:=0,listed:=false,values:=List.replicate aC (0,0),ag:=List.replicate 8 none,calls:=List.replicate 8 none,aA:=0,seq:=0,aL:=0,aP:=[],sw:=none,low:=0,cut:=[],cuts:=0}
def St.first (D:St) (s:Nat):St×K:=
 let o:=(D.c s).op
 let t:=D.t s
 match o.kind with
 |1=>
  match t.cell o.E with
  |some x=>(D,if x.there then .fin {value:=D.valueOf x.own} else .fin {e:=11})
  |none=>(D,.start ⟨o.E,t.aG,.get⟩)
 |5=>D.scan s o.E
 |6=>(D,.draw)
 |7=>(D,.abort 0 1)
 |_=>
  match t.cell o.E with
  |some x=>
   if x.there∧o.kind=2 then (D,.fin {e:=12})
   else if x.there=false∧o.kind≠2 then (D,.fin {e:=11})
   else if x.own=0 then D.slot s true 0 0
   else (D,.again (if o.kind=4 then mine t else ever))
  |none=>(D,.start ⟨o.E,t.aG,.change⟩)
def lM (ax low:Nat):Bool:=(rd ax).1==1&&1<=(rd ax).2&&(rd ax).2<=low
/- What is told. -/
structure Status where
 live:Bool:=false
 busy:Bool:=false
 waits:Bool:=false
 id:Nat:=0
 ak:Nat:=0
 state:Nat:=0
 aG:Nat:=0
 ax:Nat:=0
 ops:Nat:=0
 deriving Repr,DecidableEq,Inhabited
def St.status (D:St) (s:Nat):Status:=
 match D.ag.getD s none with
 |none=>{}
 |some t=>
  let c:=D.calls.getD s none
  {live:=true,id:=t.id,ak:=t.ak,state:=if 0<t.ax then 2 else 1,aG:=t.aG,ax:=t.ax,ops:=t.ops,busy:=c.isSome,waits:=(c.map (·.waits)).getD false}
def St.live (D:St):List Nat:=(List.range 8).filter fun s=>(D.ag.getD s none).isSome
end Go.Proofs.YthicolbbmjfkfaaGreat.En
namespace Go.Proofs.YthicolbbmjfkfaaGreat.Em
open Go.ChangeShapes Go.WideShapes Go.ChangeAt Go.RowKit En
abbrev u64 (n:Nat):Value:=zu n
abbrev i64 (n:Nat):Value:=I n
abbrev ptr (b:Nat):Value:=R b 0
structure au where
 L:cZ
 Y:Nat
 ba:Nat
 bw:Nat
 bp:Nat
 bs:Nat
 bv:Nat
 bt:Nat->Nat
 bm:Nat->Nat
 bc:Nat->Nat
 bx:Nat->Nat->Nat
 eO:Value
 iT:Value
 mf:Value
 hcut:Bool
 vT:Nat
 gJ:Value
 dR:Nat->Value
 eu:Nat->Value
 dN:Nat->Value
 aR:Nat->Value
 aW:Nat->Value
 bG:Nat->Value
 fH:List Value
 nS:List Value
 mp:Int
 mt:Nat->Int
 jZ:Nat->Bool
def au.tp (A:au) (D:St) (s:Nat):Value:=match D.ag.getD s none with|some _=>ptr (A.bt s)|none=>.pointer none
def au.sv (A:au) (x:Option S):Value:=bif x.isNone then .nilFunc else A.gJ
def au.Og (A:au):Value×Bool×Nat×List Value:=(A.mf,A.hcut,A.vT,A.nS)
def au.Qm (A:au):Value×Value×Bool×Nat×List Value:=(A.gJ,A.Og)
def mo (A:au) (D:St):List Value:=
 [i64 D.aC, u64 D.limit, ptr A.ba, ptr A.bp, .slice (some (J A.bv 0)) D.aC D.aC,
  A.tp D 0,A.tp D 1,A.tp D 2,A.tp D 3,A.tp D 4,A.tp D 5,A.tp D 6,A.tp D 7,
  A.bG 0,A.bG 1,A.bG 2,A.bG 3,A.bG 4,A.bG 5,A.bG 6,A.bG 7,
  i64 D.aA,i64 D.seq,i64 D.aL,A.iT,A.sv D.sw,u64 D.low,A.mf,.bool false]
def mP (A:au) (D:St):List Value:=[.slice (some (J A.bw 0)) D.words.length D.words.length,i64 D.count]
def iC (b:Bool) (m:Int):List Value:=[.int .u32 (if b then 1 else 0),.int .i32 m,.int .u32 0]
def kF (A:au) (D:St):List Value:=[.slice (some (J A.bs 0)) D.aC D.aC,i64 65535,A.eO,i64 D.iA]++iC D.listed A.mp
def two (l:List (Value×Value)):List Value:=l.flatMap fun p=>[p.1,p.2]
def wH (D:St):List Value:=two (D.tags.map fun p=>(i64 p.1,.bool p.2))
def mQ (D:St):List Value:=two (D.values.map fun p=>(i64 p.1,i64 p.2))
def dS (A:au) (s:Nat) (t:bB):List Value:=
 [i64 t.id,i64 t.ak,i64 s,u64 t.aG,u64 t.ax,i64 t.ops,A.dR s,.map (some (A.bm s)),A.eu s,A.dN s]++iC t.over (A.mt s)++[.bool (A.jZ s)]
def eD (A:au) (s:Nat) (c:dF):List Value:=
 [i64 c.op.kind,i64 c.op.E,i64 c.op.hi,i64 c.op.value,A.aW s,i64 c.r.e,i64 c.r.value,A.aR s,i64 c.r.over,i64 c.r.ay,.bool c.waits,.bool c.over,i64 c.seq]
def qf (x:jr):List Value:=[u64 x.own,u64 x.old,.bool x.there]
def fV (A:au) (s:Nat) (t:bB):List MapEntry:=t.cells.reverse.zipIdx.map fun p=>⟨i64 p.1.1,ptr (A.bx s p.1.1),p.2⟩
def jc (l:List (Nat×Nat×Bool)):List Value:=l.flatMap fun r=>[i64 r.1,u64 r.2.1,.bool r.2.2]
def bI (l:List (Nat×Nat)):List Value:=two (l.map fun p=>(i64 p.1,i64 p.2))
def aY (A:au) (D:St):bN->Entry
 |.eH=>.obj A.Y (mo A D) 111
 |.arena=>.obj A.ba (mP A D) 184
 |.words=>.obj A.bw (D.words.map u64) 186
 |.bK=>.obj A.bp (kF A D) 208
 |.tags=>.obj A.bs (wH D) 243
 |.free=>.own A.eO 3 1 D.free.length (D.free.map i64)
 |.values=>.obj A.bv (mQ D) 190
 |.aP=>.own A.iT 62 12 D.aP.length A.fH
 |.cut=>bif A.hcut then .obj A.vT A.nS 203 else .none
 |.tmp=>.none
 |.dZ s=>match D.ag.getD s none with|some t=>.obj (A.bt s) (dS A s t) 131|none=>.none
 |.map s=>match D.ag.getD s none with|some t=>.map (A.bm s) (fV A s t) t.cells.length|none=>.none
 |.cell s E=>match (D.ag.getD s none).bind (·.cell E) with|some x=>.obj (A.bx s E) (qf x) 225|none=>.none
 |.keys s=>match D.ag.getD s none with|some t=>.own (A.dR s) 3 1 t.keys.length (t.keys.map i64)|none=>.none
 |.reads s=>match D.ag.getD s none with|some t=>.own (A.eu s) 250 3 t.reads.length (jc t.reads)|none=>.none
 |.aJ s=>match D.ag.getD s none with|some t=>.own (A.dN s) 3 1 t.aJ.length (t.aJ.map i64)|none=>.none
 |.call s=>match D.calls.getD s none with|some c=>.obj (A.bc s) (eD A s c) 141|none=>.none
 |.aB s=>match D.calls.getD s none with|some c=>.own (A.aR s) 152 2 c.r.aB.length (bI c.r.aB)|none=>.none
end Go.Proofs.YthicolbbmjfkfaaGreat.Em
namespace Go.Proofs.YthicolbbmjfkfaaGreat.Em
open Go.ChangeShapes Go.WideShapes Go.ChangeAt Go.RowKit En
def lK (e:Ev) (vp:Value):List Value:=
 [i64 e.kind,i64 e.t,u64 e.n,i64 e.op.kind,i64 e.op.E,i64 e.op.hi,i64 e.op.value,i64 e.res.e,i64 e.res.value,vp,i64 e.res.over,i64 e.res.ay]
def jL (L:cZ) (w:World) (v:Value) (xs:List Value):Prop:=dQ L w 2 v xs∧∀ g off n cap,v=.slice (some (J g off)) n cap->n=0∨∃ cs,w.heap[g]? =some (.cells cs 152)
theorem jL.nil (L:cZ) (w:World):jL L w (.slice none 0 0) []:=⟨dQ.nil L w 2,fun g off n cap h=>by simp at h⟩
theorem jL.grow {L L':cZ} {w G:World} {v:Value} {xs:List Value} (h:jL L w v xs) (g:Grow L w L' G):jL L' G v xs:=by
 refine⟨h.1.grow g,fun b off n cap hv=>?_⟩
 rcases h.2 b off n cap hv with h0|⟨cs,hc⟩
 . exact .inl h0
 . by_cases hn:n=0
   . exact .inl hn
   . obtain⟨a,n',cap',e1,e2,e3,e4,e5⟩:=h.1
     obtain⟨rfl,rfl,rfl⟩:a=za b off∧n'=n∧cap'=cap:=by rw[hv] at e1;simp at e1;exact⟨e1.1.symm,e1.2.1.symm,e1.2.2.symm⟩
     obtain⟨b',off',e6,e7,e8,_⟩:=e5.resolve_left hn;obtain⟨rfl,rfl⟩:b=b'∧off=off':=by simpa using e6
     exact .inr ⟨cs,(g.block b e8 e7).trans hc⟩
def pE (L:cZ) (w:World):List Ev->List Value->Prop
 |[],xs=>xs=[]
 |e::l,xs=>∃ vp ys,xs=lK e vp++ys∧jL L w vp (bI e.res.aB)∧pE L w l ys
theorem pE.grow {L L':cZ} {w G:World} (g:Grow L w L' G):∀ {l:List Ev} {xs:List Value},pE L w l xs->pE L' G l xs
 |[],_,h=>h
 |_::_,_,⟨vp,ys,h1,h2,h3⟩=>⟨vp,ys,h1,h2.grow g,pE.grow g h3⟩
theorem pE.snoc {L:cZ} {w:World} {e:Ev} {vp:Value} (hp:jL L w vp (bI e.res.aB)):∀ {l:List Ev} {xs:List Value},pE L w l xs->pE L w (l++[e]) (xs++lK e vp)
 |[],xs,h=>by
  have h0:xs=[]:=h;subst h0;exact⟨vp,[],by simp,hp,rfl⟩
 |_::_,_,⟨v,ys,h1,h2,h3⟩=>⟨v,ys++lK e vp,by rw[h1,List.append_assoc],h2,pE.snoc hp h3⟩
structure aD (A:au) (D:St) (w:World):Prop where
 mem:Holds A.L w (aY A D)
 ev:pE A.L w D.aP A.fH
 sl:1<=D.aC∧D.aC<=256
 nw:D.words.length=73+D.aC*3+2001
 nt:D.tags.length=D.aC
 nv:D.values.length=D.aC
 n8:D.ag.length=8
 nc:D.calls.length=8
theorem aD.below {A:au} {D:St} {w G:World} (h:aD A D w) (Z:Below w.heap.size w G):aD A D G:=⟨h.mem.below Z,h.ev.grow (Grow.below Z),h.sl,h.nw,h.nt,h.nv,h.n8,h.nc⟩
theorem aD.alloc {A:au} {D:St} {w:World} (h:aD A D w) (o:Obj):aD A D (w.alloc o):=h.below ((Below.refl _ _).alloc (zr _) o)
theorem aD.drew {A:au} {D:St} {w:World} (h:aD A D w):aD A D w.drew:=h.below (Below.refl _ _).drew
theorem aD.drewN {A:au} {D:St} {w:World} (h:aD A D w) (n:Nat):aD A D (w.drewN n):=h.below ⟨rfl,rfl,rfl,zr _,fun _ _=>rfl⟩
theorem aD.eH {A:au} {D:St} {w:World} (h:aD A D w) (i:Nat) {v:Value} (hv:(mo A D)[i]? =some v):w.cell? (J A.Y i)=some v:=h.mem.cell (r:=.eH) rfl i hv
theorem aD.z2 {A:au} {D:St} {w:World} (h:aD A D w):w.cell? (J A.Y 2)=zs A.ba 0:=h.eH 2 rfl
theorem aD.pK {A:au} {D:St} {w:World} (h:aD A D w) (i:Nat):w.frozen? (J A.Y i)=false:=h.mem.frozen (r:=.eH) rfl i
theorem aD.arena {A:au} {D:St} {w:World} (h:aD A D w) (i:Nat) {v:Value} (hv:(mP A D)[i]? =some v):w.cell? (J A.ba i)=some v:=h.mem.cell (r:=.arena) rfl i hv
theorem aD.Lt {A:au} {D:St} {w:World} (h:aD A D w) (i:Nat):w.frozen? (J A.ba i)=false:=h.mem.frozen (r:=.arena) rfl i
theorem aD.word {A:au} {D:St} {w:World} (h:aD A D w) {i:Nat} (hi:i<D.words.length):w.cell? (J A.bw i)=zv (D.word i:Int):=by
 refine h.mem.cell (r:=.words) rfl i ?_;rw[List.getElem?_map,zx hi];simp[St.word,List.getD,hi]
theorem aD.K7 {A:au} {D:St} {w:World} (h:aD A D w) (i:Nat):w.frozen? (J A.bw i)=false:=h.mem.frozen (r:=.words) rfl i
theorem bQ {D:St} {s:Nat} {t:bB} (ht:D.ag.getD s none=some t):D.t s=t:=by unfold St.t;rw[ht];rfl
theorem aU {D:St} {s:Nat} {c:dF} (hc:D.calls.getD s none=some c):D.c s=c:=by unfold St.c;rw[hc];rfl
theorem iM {A:au} {D:St} {s:Nat} {t:bB} (ht:D.ag.getD s none=some t):aY A D (.dZ s)=.obj (A.bt s) (dS A s t) 131:=by simp only[aY,ht]
theorem j6 {A:au} {D:St} {s:Nat} {c:dF} (hc:D.calls.getD s none=some c):aY A D (.call s)=.obj (A.bc s) (eD A s c) 141:=by simp only[aY,hc]
theorem aD.dZ {A:au} {D:St} {w:World} (h:aD A D w) {s:Nat} {t:bB} (ht:D.ag.getD s none=some t) (i:Nat) {v:Value} (hv:(dS A s t)[i]? =some v):w.cell? (J (A.bt s) i)=some v:=h.mem.cell (iM ht) i hv
theorem aD.tH {A:au} {D:St} {w:World} (h:aD A D w) {s:Nat} {t:bB} (ht:D.ag.getD s none=some t) (i:Nat):w.frozen? (J (A.bt s) i)=false:=h.mem.frozen (iM ht) i
theorem aD.call {A:au} {D:St} {w:World} (h:aD A D w) {s:Nat} {c:dF} (hc:D.calls.getD s none=some c) (i:Nat) {v:Value} (hv:(eD A s c)[i]? =some v):w.cell? (J (A.bc s) i)=some v:=h.mem.cell (j6 hc) i hv
theorem aD.nT {A:au} {D:St} {w:World} (h:aD A D w) {s:Nat} {c:dF} (hc:D.calls.getD s none=some c) (i:Nat):w.frozen? (J (A.bc s) i)=false:=h.mem.frozen (j6 hc) i
/- Writing. -/
theorem aD.tick {A:au} {D:St} {w:World} (h:aD A D w):aD A D.tick (w.setCell (J A.ba 1) (I ((D.count:Int)+1)))∧Grow A.L w A.L (w.setCell (J A.ba 1) (I ((D.count:Int)+1))):=by
 have g:=h.mem.cK (r:=.arena) rfl 1 (I ((D.count:Int)+1));exact⟨⟨h.mem.set .arena rfl 1 _ (by simp[aY,mP,St.tick]) (fun q hq=>by cases q<;>first|rfl|exact absurd rfl hq),h.ev.grow g,h.sl,h.nw,h.nt,h.nv,h.n8,h.nc⟩,g⟩
theorem aD.store {A:au} {D:St} {w:World} (h:aD A D w) (i n:Nat):aD A {D with words:=D.words.set i n} (w.setCell (J A.bw i) (zu n))∧Grow A.L w A.L (w.setCell (J A.bw i) (zu n)):=by
 have g:=h.mem.cK (r:=.words) rfl i (zu n);exact⟨⟨h.mem.set .words rfl i _ (by simp[aY,List.map_set]) (fun q hq=>by cases q<;>first|rfl|exact absurd rfl hq|(simp[aY,mP])),h.ev.grow g,h.sl,by simpa using h.nw,h.nt,h.nv,h.n8,h.nc⟩,g⟩
theorem aD.put {A:au} {D:St} {w:World} (h:aD A D w) (i n:Nat):aD A (D.put i n) ((w.setCell (J A.ba 1) (I ((D.count:Int)+1))).setCell (J A.bw i) (zu n))∧Grow A.L w A.L ((w.setCell (J A.ba 1) (I ((D.count:Int)+1))).setCell (J A.bw i) (zu n)):=by
 obtain⟨h1,g1⟩:=h.tick;obtain⟨h2,g2⟩:=h1.store i n;exact⟨h2,g1.trans g2⟩
end Go.Proofs.YthicolbbmjfkfaaGreat.Em
namespace Go.Proofs.YthicolbbmjfkfaaGreat.Em
open Go.ChangeShapes Go.WideShapes Go.ChangeAt Go.RowKit En
theorem jy {α:Type} (l:List α) (s q:Nat) (x d:α) (hs:s<l.length):(l.set s x).getD q d=if q=s then x else l.getD q d:=by
 simp only[mM,List.getElem?_set]
 by_cases h:s=q
 . subst h;simp[hs]
 . simp[h,Ne.symm h]
theorem cO {D:St} {s:Nat} (hs:s<D.ag.length) (t:bB) (q:Nat):(D.bq s t).ag.getD q none=if q=s then some t else D.ag.getD q none:=jy _ _ _ _ _ hs
theorem bS {D:St} {s:Nat} (hs:s<D.calls.length) (c:dF) (q:Nat):(D.aF s c).calls.getD q none=if q=s then some c else D.calls.getD q none:=jy _ _ _ _ _ hs
theorem cz {D:St} {s:Nat} {t:bB} (ht:D.ag.getD s none=some t):s<D.ag.length:=by
 rcases Nat.lt_or_ge s D.ag.length with h|h
 . exact h
 . simp[mM,FC h] at ht
theorem bH {D:St} {s:Nat} {c:dF} (hc:D.calls.getD s none=some c):s<D.calls.length:=by
 rcases Nat.lt_or_ge s D.calls.length with h|h
 . exact h
 . simp[mM,FC h] at hc
theorem IV (A:au) {D:St} {s:Nat} {t:bB} (ht:D.ag.getD s none=some t) (t':bB) (q:Nat):A.tp (D.bq s t') q=A.tp D q:=by
 unfold au.tp;rw[cO (cz ht)]
 by_cases h:q=s
 . subst h;rw[aV rfl,ht]
 . rw[aX h]
def fP (A:au) (s:Nat) (t:Option bB):bN->Entry
 |.dZ _=>match t with|some t=>.obj (A.bt s) (dS A s t) 131|none=>.none
 |.map _=>match t with|some t=>.map (A.bm s) (fV A s t) t.cells.length|none=>.none
 |.cell _ E=>match t.bind (·.cell E) with|some x=>.obj (A.bx s E) (qf x) 225|none=>.none
 |.keys _=>match t with|some t=>.own (A.dR s) 3 1 t.keys.length (t.keys.map i64)|none=>.none
 |.reads _=>match t with|some t=>.own (A.eu s) 250 3 t.reads.length (jc t.reads)|none=>.none
 |.aJ _=>match t with|some t=>.own (A.dN s) 3 1 t.aJ.length (t.aJ.map i64)|none=>.none
 |_=>.none
def bN.tx:bN->Option Nat
 |.dZ s|.map s|.cell s _|.keys s|.reads s|.aJ s=>some s
 |_=>none
theorem gK (A:au) (D:St) {q:bN} {s:Nat} (h:q.tx=some s):aY A D q=fP A s (D.ag.getD s none) q:=by
 cases q<;>simp[bN.tx] at h<;>subst h<;>rfl
theorem iN (A:au) {D:St} {s:Nat} {t:bB} (ht:D.ag.getD s none=some t) (t':bB) {q:bN} (h:q.tx≠some s):aY A (D.bq s t') q=aY A D q:=by
 cases hq:q.tx with
 |none=>
  cases q<;>first|rfl|(simp[bN.tx] at hq;done)|skip
  simp only[aY];simp only[mo,IV A ht];rfl
 |some k=>
  have V:k≠s:=by rintro rfl;exact h hq
  rw[gK A _ hq,gK A _ hq,cO (cz ht),aX V]
theorem aD.BQ {A:au} {D:St} {w:World} (h:aD A D w) {s:Nat} {t:bB} (ht:D.ag.getD s none=some t) (t':bB) (i:Nat) (v:Value) (hcs:dS A s t'=(dS A s t).set i v)
 (h1:t'.cells=t.cells) (h2:t'.keys=t.keys) (h3:t'.reads=t.reads) (h4:t'.aJ=t.aJ):aD A (D.bq s t') (w.setCell (J (A.bt s) i) v)∧Grow A.L w A.L (w.setCell (J (A.bt s) i) v):=by
 have g:=h.mem.cK (iM ht) i v;refine⟨⟨h.mem.set (.dZ s) (iM ht) i v ?_ ?_,h.ev.grow g,h.sl,h.nw,h.nt,h.nv,by simpa [St.bq] using h.n8,h.nc⟩,g⟩
 . rw[gK A _ (s:=s) rfl,cO (cz ht),aV rfl]
   simp only[fP,hcs]
 . intro q hq
   by_cases hs:q.tx=some s
   . rw[gK A _ hs,gK A _ hs,cO (cz ht),aV rfl,ht]
     cases q<;>simp[bN.tx] at hs<;>subst hs<;>first|exact absurd rfl hq|(simp[fP,fV,bB.cell,h1,h2,h3,h4];done)
   . exact iN A ht t' hs
/- A call's parts. -/
def lN (A:au) (s:Nat) (c:Option dF):bN->Entry
 |.call _=>match c with|some c=>.obj (A.bc s) (eD A s c) 141|none=>.none
 |.aB _=>match c with|some c=>.own (A.aR s) 152 2 c.r.aB.length (bI c.r.aB)|none=>.none
 |_=>.none
def bN.cl:bN->Option Nat
 |.call s|.aB s=>some s
 |_=>none
theorem jd (A:au) (D:St) {q:bN} {s:Nat} (h:q.cl=some s):aY A D q=lN A s (D.calls.getD s none) q:=by
 cases q<;>simp[bN.cl] at h<;>subst h<;>rfl
theorem kK (A:au) {D:St} {s:Nat} {c:dF} (hc:D.calls.getD s none=some c) (c':dF) {q:bN} (h:q.cl≠some s):aY A (D.aF s c') q=aY A D q:=by
 cases hq:q.cl with
 |none=>
  cases q<;>first|rfl|(simp[bN.cl] at hq;done)
 |some k=>
  have V:k≠s:=by rintro rfl;exact h hq
  rw[jd A _ hq,jd A _ hq,bS (bH hc),aX V]
theorem aD.qg {A:au} {D:St} {w:World} (h:aD A D w) {s:Nat} {c:dF} (hc:D.calls.getD s none=some c) (c':dF) (i:Nat) (v:Value) (hcs:eD A s c'=(eD A s c).set i v)
 (h1:c'.r.aB=c.r.aB):aD A (D.aF s c') (w.setCell (J (A.bc s) i) v)∧Grow A.L w A.L (w.setCell (J (A.bc s) i) v):=by
 have g:=h.mem.cK (j6 hc) i v;refine⟨⟨h.mem.set (.call s) (j6 hc) i v ?_ ?_,h.ev.grow g,h.sl,h.nw,h.nt,h.nv,h.n8,by simpa [St.aF] using h.nc⟩,g⟩
 . rw[jd A _ (s:=s) rfl,bS (bH hc),aV rfl]
   simp only[lN,hcs]
 . intro q hq
   by_cases hs:q.cl=some s
   . rw[jd A _ hs,jd A _ hs,bS (bH hc),aV rfl,hc]
     cases q<;>simp[bN.cl] at hs<;>subst hs<;>first|exact absurd rfl hq|(simp[lN,h1];done)
   . exact kK A hc c' hs
end Go.Proofs.YthicolbbmjfkfaaGreat.Em
namespace Go.Proofs.YthicolbbmjfkfaaGreat.Em
open Go.ChangeShapes Go.WideShapes Go.ChangeAt Go.RowKit En
def jI (f:Nat->Value) (s:Nat) (v:Value):Nat->Value:=fun k=>if k=s then v else f k
theorem Holds.of_eq {L:cZ} {w:World} {m m':bN->Entry} (h:Holds L w m) (e:∀ q,m' q=m q):Holds L w m':=⟨fun q=>by rw[e];exact h.all q,h.fresh⟩
theorem kg (f:Nat->Value) (s:Nat) (v:Value):jI f s v s=v:=aV rfl
theorem bz (f:Nat->Value) {s k:Nat} (v:Value) (h:k≠s):jI f s v k=f k:=aX h
structure au.K8 (A A':au) (s:Nat):Prop where
 Y:A'.Y=A.Y
 ba:A'.ba=A.ba
 bw:A'.bw=A.bw
 bp:A'.bp=A.bp
 bs:A'.bs=A.bs
 bv:A'.bv=A.bv
 bt:A'.bt=A.bt
 bc:A'.bc=A.bc
 eO:A'.eO=A.eO
 iT:A'.iT=A.iT
 mf:A'.Og=A.Og
 gJ:A'.gJ=A.gJ
 fH:A'.fH=A.fH
 aW:A'.aW=A.aW
 bG:A'.bG=A.bG
 aR:A'.aR=A.aR
 mp:A'.mp=A.mp
 bm:∀ k,k≠s->A'.bm k=A.bm k
 bx:∀ k,k≠s->A'.bx k=A.bx k
 dR:∀ k,k≠s->A'.dR k=A.dR k
 eu:∀ k,k≠s->A'.eu k=A.eu k
 dN:∀ k,k≠s->A'.dN k=A.dN k
 mt:∀ k,k≠s->A'.mt k=A.mt k
 jZ:∀ k,k≠s->A'.jZ k=A.jZ k
theorem kQ {A A':au} {s:Nat} (h:A.K8 A' s) (D:St) {q:bN} (hq:q.tx≠some s):aY A' D q=aY A D q:=by
 have c1:A'.mf=A.mf:=congrArg (·.1) h.mf;have c2:A'.hcut=A.hcut:=congrArg (·.2.1) h.mf;have c3:A'.vT=A.vT:=congrArg (·.2.2.1) h.mf;have c4:A'.nS=A.nS:=congrArg (·.2.2.2) h.mf;have tp:∀ k,A'.tp D k=A.tp D k:=fun k=>by unfold au.tp;rw[h.bt]
 have tc:∀ k,k≠s->∀ t,dS A' k t=dS A k t:=fun k V t=>by simp only[dS,h.bm k V,h.dR k V,h.eu k V,h.dN k V,h.mt k V,h.jZ k V]
 have me:∀ k,k≠s->∀ t,fV A' k t=fV A k t:=fun k V t=>by simp only[fV,h.bx k V]
 have cc:∀ k c,eD A' k c=eD A k c:=fun k c=>by simp only[eD,h.aW,h.aR]
 cases q<;>simp only[bN.tx,ne_eq,Option.some.injEq,not_false_eq_true] at hq<;>first
  |(simp only[aY,mo,au.sv,mP,kF,wH,mQ,tp,h.bG,h.Y,h.ba,h.bw,h.bp,h.bs,h.bv,h.eO,h.iT,c1,c2,c3,c4,h.gJ,h.fH,h.bc,h.aR,h.mp,cc];done)
  |(simp only[aY,h.bt,tc _ hq];done)
  |(simp only[aY,h.bm _ hq,me _ hq];done)
  |(simp only[aY,h.bx _ hq];done)
  |(simp only[aY,h.dR _ hq];done)
  |(simp only[aY,h.eu _ hq];done)
  |(simp only[aY,h.dN _ hq];done)
theorem mem_keys {A:au} {D:St} {s:Nat} {t:bB} (ht:D.ag.getD s none=some t):aY A D (.keys s)=.own (A.dR s) 3 1 t.keys.length (t.keys.map i64):=by simp only[aY,ht]
def au.sS (A:au) (s:Nat) (v:Value):au:={A with L:=tF A.L v (.keys s),dR:=jI A.dR s v}
theorem aD.Lu {A:au} {D:St} {w H:World} (h:aD A D w) {s:Nat} {t:bB} (ht:D.ag.getD s none=some t) (l:List _) (v':Value)
 (hg:w.grownBy H (A.dR s).ownBlock) (ho:H.ownsRow 0 3 1 v' l.length (l.map i64)) (hw:v'.ownBlock=(A.dR s).ownBlock∨∀ g,v'.ownBlock=some g->w.heap.size<=g):
 aD (A.sS s v') (D.bq s {t with keys:=l}) (H.setCell (J (A.bt s) 6) v')∧Grow A.L w (A.sS s v').L (H.setCell (J (A.bt s) 6) v')∧H.cell? (J (A.bt s) 6)=some (A.dR s)∧H.frozen? (J (A.bt s) 6)=false:=by
 obtain⟨h1,g1⟩:=h.mem.grown (.keys s) (mem_keys ht) hg ho hw;have e2:gI (aY A D) (.keys s) (.own v' 3 1 l.length (l.map i64)) (.dZ s)=.obj (A.bt s) (dS A s t) 131:=by rw[bJ _ _ (by simp),iM ht]
 have h2:=h1.put (.dZ s) e2 6 v';have g2:=h1.cK e2 6 v';have g:=g1.trans g2;refine⟨⟨?_,h.ev.grow g,h.sl,h.nw,h.nt,h.nv,by simpa [St.bq] using h.n8,h.nc⟩,g,h1.cell e2 6 rfl,h1.frozen e2 6⟩;refine h2.of_eq fun q=>?_
 by_cases hs:q.tx=some s
 . rw[gK _ _ hs,cO (cz ht),aV rfl]
   unfold gI;rw[gK A _ hs,ht]
   cases q<;>simp[bN.tx] at hs<;>subst hs<;>simp[fP,fV,bB.cell,dS,au.sS,jI]
 . have e3:q≠.keys s:=by rintro rfl;exact hs rfl
   have e4:q≠.dZ s:=by rintro rfl;exact hs rfl
   rw[bJ _ _ e4,bJ _ _ e3,iN _ ht _ hs];exact kQ (A:=A) (A':=A.sS s v') ⟨rfl,rfl,rfl,rfl,rfl,rfl,rfl,rfl,rfl,rfl,rfl,rfl,rfl,rfl,rfl,rfl,rfl,fun k V=>by first|rfl|exact bz _ _ V,fun k V=>by first|rfl|exact bz _ _ V,fun k V=>by first|rfl|exact bz _ _ V,fun k V=>by first|rfl|exact bz _ _ V,fun k V=>by first|rfl|exact bz _ _ V,fun _ _=>rfl,fun _ _=>rfl⟩ D hs
theorem mem_reads {A:au} {D:St} {s:Nat} {t:bB} (ht:D.ag.getD s none=some t):aY A D (.reads s)=.own (A.eu s) 250 3 t.reads.length (jc t.reads):=by simp only[aY,ht]
def au.qh (A:au) (s:Nat) (v:Value):au:={A with L:=tF A.L v (.reads s),eu:=jI A.eu s v}
theorem aD.IW {A:au} {D:St} {w H:World} (h:aD A D w) {s:Nat} {t:bB} (ht:D.ag.getD s none=some t) (l:List _) (v':Value)
 (hg:w.grownBy H (A.eu s).ownBlock) (ho:H.ownsRow 0 250 3 v' l.length (jc l)) (hw:v'.ownBlock=(A.eu s).ownBlock∨∀ g,v'.ownBlock=some g->w.heap.size<=g):
 aD (A.qh s v') (D.bq s {t with reads:=l}) (H.setCell (J (A.bt s) 8) v')∧Grow A.L w (A.qh s v').L (H.setCell (J (A.bt s) 8) v')∧H.cell? (J (A.bt s) 8)=some (A.eu s)∧H.frozen? (J (A.bt s) 8)=false:=by
 obtain⟨h1,g1⟩:=h.mem.grown (.reads s) (mem_reads ht) hg ho hw;have e2:gI (aY A D) (.reads s) (.own v' 250 3 l.length (jc l)) (.dZ s)=.obj (A.bt s) (dS A s t) 131:=by rw[bJ _ _ (by simp),iM ht]
 have h2:=h1.put (.dZ s) e2 8 v';have g2:=h1.cK e2 8 v';have g:=g1.trans g2;refine⟨⟨?_,h.ev.grow g,h.sl,h.nw,h.nt,h.nv,by simpa [St.bq] using h.n8,h.nc⟩,g,h1.cell e2 8 rfl,h1.frozen e2 8⟩;refine h2.of_eq fun q=>?_
 by_cases hs:q.tx=some s
 . rw[gK _ _ hs,cO (cz ht),aV rfl]
   unfold gI;rw[gK A _ hs,ht]
   cases q<;>simp[bN.tx] at hs<;>subst hs<;>simp[fP,fV,bB.cell,dS,au.qh,jI]
 . have e3:q≠.reads s:=by rintro rfl;exact hs rfl
   have e4:q≠.dZ s:=by rintro rfl;exact hs rfl
   rw[bJ _ _ e4,bJ _ _ e3,iN _ ht _ hs];exact kQ (A:=A) (A':=A.qh s v') ⟨rfl,rfl,rfl,rfl,rfl,rfl,rfl,rfl,rfl,rfl,rfl,rfl,rfl,rfl,rfl,rfl,rfl,fun k V=>by first|rfl|exact bz _ _ V,fun k V=>by first|rfl|exact bz _ _ V,fun k V=>by first|rfl|exact bz _ _ V,fun k V=>by first|rfl|exact bz _ _ V,fun k V=>by first|rfl|exact bz _ _ V,fun _ _=>rfl,fun _ _=>rfl⟩ D hs
theorem kR {A:au} {D:St} {s:Nat} {t:bB} (ht:D.ag.getD s none=some t):aY A D (.aJ s)=.own (A.dN s) 3 1 t.aJ.length (t.aJ.map i64):=by simp only[aY,ht]
def au.qi (A:au) (s:Nat) (v:Value):au:={A with L:=tF A.L v (.aJ s),dN:=jI A.dN s v}
theorem aD.IX {A:au} {D:St} {w H:World} (h:aD A D w) {s:Nat} {t:bB} (ht:D.ag.getD s none=some t) (l:List _) (v':Value)
 (hg:w.grownBy H (A.dN s).ownBlock) (ho:H.ownsRow 0 3 1 v' l.length (l.map i64)) (hw:v'.ownBlock=(A.dN s).ownBlock∨∀ g,v'.ownBlock=some g->w.heap.size<=g):
 aD (A.qi s v') (D.bq s {t with aJ:=l}) (H.setCell (J (A.bt s) 9) v')∧Grow A.L w (A.qi s v').L (H.setCell (J (A.bt s) 9) v')∧H.cell? (J (A.bt s) 9)=some (A.dN s)∧H.frozen? (J (A.bt s) 9)=false:=by
 obtain⟨h1,g1⟩:=h.mem.grown (.aJ s) (kR ht) hg ho hw;have e2:gI (aY A D) (.aJ s) (.own v' 3 1 l.length (l.map i64)) (.dZ s)=.obj (A.bt s) (dS A s t) 131:=by rw[bJ _ _ (by simp),iM ht]
 have h2:=h1.put (.dZ s) e2 9 v';have g2:=h1.cK e2 9 v';have g:=g1.trans g2;refine⟨⟨?_,h.ev.grow g,h.sl,h.nw,h.nt,h.nv,by simpa [St.bq] using h.n8,h.nc⟩,g,h1.cell e2 9 rfl,h1.frozen e2 9⟩;refine h2.of_eq fun q=>?_
 by_cases hs:q.tx=some s
 . rw[gK _ _ hs,cO (cz ht),aV rfl]
   unfold gI;rw[gK A _ hs,ht]
   cases q<;>simp[bN.tx] at hs<;>subst hs<;>simp[fP,fV,bB.cell,dS,au.qi,jI]
 . have e3:q≠.aJ s:=by rintro rfl;exact hs rfl
   have e4:q≠.dZ s:=by rintro rfl;exact hs rfl
   rw[bJ _ _ e4,bJ _ _ e3,iN _ ht _ hs];exact kQ (A:=A) (A':=A.qi s v') ⟨rfl,rfl,rfl,rfl,rfl,rfl,rfl,rfl,rfl,rfl,rfl,rfl,rfl,rfl,rfl,rfl,rfl,fun k V=>by first|rfl|exact bz _ _ V,fun k V=>by first|rfl|exact bz _ _ V,fun k V=>by first|rfl|exact bz _ _ V,fun k V=>by first|rfl|exact bz _ _ V,fun k V=>by first|rfl|exact bz _ _ V,fun _ _=>rfl,fun _ _=>rfl⟩ D hs
end Go.Proofs.YthicolbbmjfkfaaGreat.Em
namespace Go.Proofs.YthicolbbmjfkfaaGreat.Em
open Go.ChangeShapes Go.WideShapes Go.ChangeAt Go.RowKit En
theorem aD.xV {A A':au} {D bE:St} {w:World} (h:aD A D w) (hL:A'.L=A.L) (i:Nat) (v:Value) (hcs:aY A' bE .eH=.obj A.Y ((mo A D).set i v) 111) (hm:∀ q,q≠.eH->aY A' bE q=aY A D q)
 (h0:bE.aP=D.aP) (h0':A'.fH=A.fH) (h1:bE.aC=D.aC) (h2:bE.words.length=D.words.length) (h3:bE.tags.length=D.tags.length) (h4:bE.values.length=D.values.length) (h5:bE.ag.length=D.ag.length) (h6:bE.calls.length=D.calls.length):
 aD A' bE (w.setCell (J A.Y i) v)∧Grow A.L w A'.L (w.setCell (J A.Y i) v):=by
 have g:=h.mem.cK (r:=.eH) rfl i v;rw[hL];exact⟨⟨hL ▸ h.mem.set .eH rfl i v hcs hm,by rw[h0,h0',hL];exact h.ev.grow g,by rw[h1];exact h.sl,by rw[h2,h1];exact h.nw,by rw[h3,h1];exact h.nt,by rw[h4,h1];exact h.nv,h5.trans h.n8,h6.trans h.nc⟩,g⟩
theorem aD.Dp {A:au} {D:St} {w:World} (h:aD A D w) (n:Nat):aD A {D with aA:=n} (w.setCell (J A.Y 21) (I n))∧Grow A.L w A.L (w.setCell (J A.Y 21) (I n)):=
 h.xV rfl 21 _ rfl (fun q hq=>by cases q<;>first|rfl|exact absurd rfl hq) rfl rfl rfl rfl rfl rfl rfl rfl
theorem aD.FO {A:au} {D:St} {w:World} (h:aD A D w) (n:Nat):aD A {D with seq:=n} (w.setCell (J A.Y 22) (I n))∧Grow A.L w A.L (w.setCell (J A.Y 22) (I n)):=
 h.xV rfl 22 _ rfl (fun q hq=>by cases q<;>first|rfl|exact absurd rfl hq) rfl rfl rfl rfl rfl rfl rfl rfl
theorem aD.tJ {A:au} {D:St} {w:World} (h:aD A D w) (n:Nat):aD A {D with aL:=n} (w.setCell (J A.Y 23) (I n))∧Grow A.L w A.L (w.setCell (J A.Y 23) (I n)):=
 h.xV rfl 23 _ rfl (fun q hq=>by cases q<;>first|rfl|exact absurd rfl hq) rfl rfl rfl rfl rfl rfl rfl rfl
theorem aD.qj {A:au} {D:St} {w:World} (h:aD A D w) {s:Nat} (hs:s<8) (v:Value):aD {A with bG:=jI A.bG s v} D (w.setCell (J A.Y (13+s)) v)∧Grow A.L w A.L (w.setCell (J A.Y (13+s)) v):=by
 refine h.xV (A':={A with bG:=jI A.bG s v}) rfl (13+s) v ?_ (fun q hq=>by cases q<;>first|rfl|exact absurd rfl hq) rfl rfl rfl rfl rfl rfl rfl rfl
 match s,hs with
 |0,_|1,_|2,_|3,_|4,_|5,_|6,_|7,_=>rfl
theorem dV (A:au) (D:St) {s:Nat} (hs:s<8):(mo A D)[5+s]? =some (A.tp D s):=by
 match s,hs with
 |0,_|1,_|2,_|3,_|4,_|5,_|6,_|7,_=>rfl
theorem eF (A:au) (D:St) {s:Nat} (hs:s<8):(mo A D)[13+s]? =some (A.bG s):=by
 match s,hs with
 |0,_|1,_|2,_|3,_|4,_|5,_|6,_|7,_=>rfl
def au.xW (A:au) (v:Value) (xs:List Value):au:={A with L:=tF A.L v .aP,iT:=v,fH:=xs}
theorem aD.IY {A:au} {D:St} {w H:World} (h:aD A D w) (e:Ev) (vp v':Value) (hp:jL A.L w vp (bI e.res.aB))
 (hg:w.grownBy H A.iT.ownBlock) (ho:H.ownsRow 0 62 12 v' (D.aP.length+1) (A.fH++lK e vp)) (hw:v'.ownBlock=A.iT.ownBlock∨∀ g,v'.ownBlock=some g->w.heap.size<=g):
 aD (A.xW v' (A.fH++lK e vp)) (D.event e) (H.setCell (J A.Y 24) v')∧Grow A.L w (A.xW v' (A.fH++lK e vp)).L (H.setCell (J A.Y 24) v')∧H.cell? (J A.Y 24)=some A.iT∧H.frozen? (J A.Y 24)=false:=by
 obtain⟨h1,g1⟩:=h.mem.grown .aP rfl hg ho hw;have e2:gI (aY A D) .aP (.own v' 62 12 (D.aP.length+1) (A.fH++lK e vp)) .eH=.obj A.Y (mo A D) 111:=rfl;have h2:=h1.put .eH e2 24 v';have g:=g1.trans (h1.cK e2 24 v');refine⟨⟨?_,?_,h.sl,h.nw,h.nt,h.nv,h.n8,h.nc⟩,g,h1.cell e2 24 rfl,h1.frozen e2 24⟩
 . refine h2.of_eq fun q=>?_
   cases q<;>first|rfl|skip
   simp[aY,gI,St.event,au.xW]
 . exact (h.ev.grow g).snoc (hp.grow g)
theorem gL {A:au} {D:St} {s:Nat} {c:dF} (hc:D.calls.getD s none=some c):aY A D (.aB s)=.own (A.aR s) 152 2 c.r.aB.length (bI c.r.aB):=by simp only[aY,hc]
structure au.Oh (A A':au) (s:Nat):Prop where
 Y:A'.Y=A.Y
 ba:A'.ba=A.ba
 bw:A'.bw=A.bw
 bp:A'.bp=A.bp
 bs:A'.bs=A.bs
 bv:A'.bv=A.bv
 bt:A'.bt=A.bt
 bm:A'.bm=A.bm
 bx:A'.bx=A.bx
 eO:A'.eO=A.eO
 iT:A'.iT=A.iT
 mf:A'.Og=A.Og
 gJ:A'.gJ=A.gJ
 fH:A'.fH=A.fH
 bG:A'.bG=A.bG
 dR:A'.dR=A.dR
 eu:A'.eu=A.eu
 dN:A'.dN=A.dN
 mp:A'.mp=A.mp
 mt:A'.mt=A.mt
 jZ:A'.jZ=A.jZ
 bc:∀ k,k≠s->A'.bc k=A.bc k
 aW:∀ k,k≠s->A'.aW k=A.aW k
 aR:∀ k,k≠s->A'.aR k=A.aR k
theorem oM {A A':au} {s:Nat} (h:A.Oh A' s) (D:St) {q:bN} (hq:q.cl≠some s):aY A' D q=aY A D q:=by
 have c1:A'.mf=A.mf:=congrArg (·.1) h.mf;have c2:A'.hcut=A.hcut:=congrArg (·.2.1) h.mf;have c3:A'.vT=A.vT:=congrArg (·.2.2.1) h.mf;have c4:A'.nS=A.nS:=congrArg (·.2.2.2) h.mf;have tp:∀ k,A'.tp D k=A.tp D k:=fun k=>by unfold au.tp;rw[h.bt]
 have tc:∀ k t,dS A' k t=dS A k t:=fun k t=>by simp only[dS,h.bm,h.dR,h.eu,h.dN,h.mt,h.jZ]
 have me:∀ k t,fV A' k t=fV A k t:=fun k t=>by simp only[fV,h.bx]
 have cc:∀ k,k≠s->∀ c,eD A' k c=eD A k c:=fun k V c=>by simp only[eD,h.aW k V,h.aR k V]
 cases q<;>simp only[bN.cl,ne_eq,Option.some.injEq,not_false_eq_true] at hq<;>first
  |(simp only[aY,mo,au.sv,mP,kF,wH,mQ,tp,h.bG,h.Y,h.ba,h.bw,h.bp,h.bs,h.bv,h.eO,h.iT,c1,c2,c3,c4,h.gJ,h.fH,h.bt,h.bm,h.bx,h.dR,h.eu,h.dN,h.mp,tc,me];done)
  |(simp only[aY,h.bc _ hq,cc _ hq];done)
  |(simp only[aY,h.aR _ hq];done)
theorem aD.qm {A:au} {D:St} {w:World} (h:aD A D w) {s:Nat} {c:dF} (hc:D.calls.getD s none=some c) (v:Value) (k:Option K):
 aD {A with aW:=jI A.aW s v} (D.aF s {c with k:=k}) (w.setCell (J (A.bc s) 4) v)∧Grow A.L w A.L (w.setCell (J (A.bc s) 4) v):=by
 have g:=h.mem.cK (j6 hc) 4 v;refine⟨⟨h.mem.set (.call s) (j6 hc) 4 v ?_ ?_,h.ev.grow g,h.sl,h.nw,h.nt,h.nv,h.n8,by simpa [St.aF] using h.nc⟩,g⟩
 . rw[jd _ _ (s:=s) rfl,bS (bH hc),aV rfl]
   simp[lN,eD,jI]
 . intro q hq
   by_cases hs:q.cl=some s
   . rw[jd _ _ hs,jd A _ hs,bS (bH hc),aV rfl,hc]
     cases q<;>simp[bN.cl] at hs<;>subst hs<;>first|exact absurd rfl hq|(simp[lN];done)
   . rw[kK _ hc _ hs]
     exact oM (A:=A) (A':={A with aW:=jI A.aW s v}) ⟨rfl,rfl,rfl,rfl,rfl,rfl,rfl,rfl,rfl,rfl,rfl,rfl,rfl,rfl,rfl,rfl,rfl,rfl,rfl,rfl,rfl,fun _ _=>rfl,fun k V=>bz _ _ V,fun _ _=>rfl⟩ D hs
def au.qo (A:au) (s:Nat) (v:Value):au:={A with L:=tF A.L v (.aB s),aR:=jI A.aR s v}
theorem aD.IZ {A:au} {D:St} {w H:World} (h:aD A D w) {s:Nat} {c:dF} (hc:D.calls.getD s none=some c) (l:List (Nat×Nat)) (v':Value)
 (hg:w.grownBy H (A.aR s).ownBlock) (ho:H.ownsRow 0 152 2 v' l.length (bI l)) (hw:v'.ownBlock=(A.aR s).ownBlock∨∀ g,v'.ownBlock=some g->w.heap.size<=g):
 aD (A.qo s v') (D.aF s {c with r:={c.r with aB:=l}}) (H.setCell (J (A.bc s) 7) v')∧Grow A.L w (A.qo s v').L (H.setCell (J (A.bc s) 7) v')∧H.cell? (J (A.bc s) 7)=some (A.aR s)∧H.frozen? (J (A.bc s) 7)=false:=by
 obtain⟨h1,g1⟩:=h.mem.grown (.aB s) (gL hc) hg ho hw;have e2:gI (aY A D) (.aB s) (.own v' 152 2 l.length (bI l)) (.call s)=.obj (A.bc s) (eD A s c) 141:=by rw[bJ _ _ (by simp),j6 hc]
 have h2:=h1.put (.call s) e2 7 v';have g:=g1.trans (h1.cK e2 7 v');refine⟨⟨?_,h.ev.grow g,h.sl,h.nw,h.nt,h.nv,h.n8,by simpa [St.aF] using h.nc⟩,g,h1.cell e2 7 rfl,h1.frozen e2 7⟩;refine h2.of_eq fun q=>?_
 by_cases hs:q.cl=some s
 . rw[jd _ _ hs,bS (bH hc),aV rfl]
   unfold gI;rw[jd A _ hs,hc]
   cases q<;>simp[bN.cl] at hs<;>subst hs<;>simp[lN,eD,au.qo,jI]
 . have e3:q≠.aB s:=by rintro rfl;exact hs rfl
   have e4:q≠.call s:=by rintro rfl;exact hs rfl
   rw[bJ _ _ e4,bJ _ _ e3,kK _ hc _ hs];exact oM (A:=A) (A':=A.qo s v') ⟨rfl,rfl,rfl,rfl,rfl,rfl,rfl,rfl,rfl,rfl,rfl,rfl,rfl,rfl,rfl,rfl,rfl,rfl,rfl,rfl,rfl,fun _ _=>rfl,fun _ _=>rfl,fun k V=>bz _ _ V⟩ D hs
end Go.Proofs.YthicolbbmjfkfaaGreat.Em
namespace Go.Proofs.YthicolbbmjfkfaaGreat.Em
open Go.ChangeShapes Go.WideShapes Go.ChangeAt Go.RowKit En
theorem Holds.none {L:cZ} {w:World} {m m':bN->Entry} (h:Holds L w m) (e:∀ q,m' q=m q∨m' q=.none):Holds L w m':=
 ⟨fun q=>by rcases e q with e|e<;>rw[e];exact h.all q;trivial,h.fresh⟩
def sets (cs:List Value):Nat->List Value->List Value
 |_,[]=>cs
 |o,v::r=>sets (cs.set o v) (o+1) r
theorem Dq {m:bN->Entry} {r:bN} {e:Entry} (he:m r=e) (q:bN):gI m r e q=m q:=by
 unfold gI
 split
 . rename_i hq;rw[hq,he]
 . rfl
theorem Holds.puts {L:cZ} (r:bN) {b:Nat} {T:TypeId} (hr:r≠.tmp):∀ (vs:List Value) (o:Nat) {w:World} {m:bN->Entry} {cs:List Value},Holds L w m->m r=.obj b cs T->
 Holds L (w.setCells b o vs) (gI m r (.obj b (sets cs o vs) T))∧Grow L w L (w.setCells b o vs)
 |[],o,w,m,cs,h,he=>⟨h.of_eq (Dq he),Grow.refl _ _⟩
 |v::vs,o,w,m,cs,h,he=>by
  have h1:=h.put r he o v;have g1:=h.cK he o v hr;obtain⟨h2,g2⟩:=Holds.puts r hr vs (o+1) h1 (iq _ _ _);refine⟨?_,g1.trans g2⟩;refine h2.of_eq fun q=>?_
  by_cases hq:q=r
  . subst hq;rw[iq,iq];rfl
  . rw[bJ _ _ hq,bJ _ _ hq,bJ _ _ hq]
def au.qp (A:au) (s:Nat) (v:Value):au:={A with aR:=jI A.aR s v}
theorem aD.Lv {A:au} {D:St} {w:World} (h:aD A D w) {s:Nat} {c:dF} (hc:D.calls.getD s none=some c) (r:ic) (vp:Value)
 (hp:(vp=A.aR s∧r.aB=c.r.aB)∨(vp=.slice none 0 0∧r.aB=[])):
 aD (A.qp s vp) (D.aF s {c with r:=r}) (w.setCells (A.bc s) 5 [i64 r.e,i64 r.value,vp,i64 r.over,i64 r.ay])∧Grow A.L w A.L (w.setCells (A.bc s) 5 [i64 r.e,i64 r.value,vp,i64 r.over,i64 r.ay]):=by
 have h1:Holds A.L w (gI (aY A D) (.aB s) (.own vp 152 2 r.aB.length (bI r.aB))):=by
  rcases hp with ⟨rfl,e⟩|⟨rfl,e⟩
  . rw[e]
    exact h.mem.of_eq (Dq (gL hc))
  . rw[e]
    exact h.mem.shrink (.aB s) (gL hc) (World.ownsRow_nil w 0 152 2) (.inr rfl)
 have e2:gI (aY A D) (.aB s) (.own vp 152 2 r.aB.length (bI r.aB)) (.call s)=.obj (A.bc s) (eD A s c) 141:=by rw[bJ _ _ (by simp),j6 hc]
 obtain⟨h2,g⟩:=Holds.puts (.call s) (by simp) [i64 r.e,i64 r.value,vp,i64 r.over,i64 r.ay] 5 h1 e2;refine⟨⟨?_,h.ev.grow g,h.sl,h.nw,h.nt,h.nv,h.n8,by simpa [St.aF] using h.nc⟩,g⟩;refine h2.of_eq fun q=>?_
 by_cases hs:q.cl=some s
 . rw[jd _ _ hs,bS (bH hc),aV rfl]
   unfold gI;rw[jd A _ hs,hc]
   cases q<;>simp[bN.cl] at hs<;>subst hs<;>simp[lN,eD,au.qp,jI,sets]
 . have e3:q≠.aB s:=by rintro rfl;exact hs rfl
   have e4:q≠.call s:=by rintro rfl;exact hs rfl
   rw[bJ _ _ e4,bJ _ _ e3,kK _ hc _ hs];exact oM (A:=A) (A':=A.qp s vp) ⟨rfl,rfl,rfl,rfl,rfl,rfl,rfl,rfl,rfl,rfl,rfl,rfl,rfl,rfl,rfl,rfl,rfl,rfl,rfl,rfl,rfl,fun _ _=>rfl,fun _ _=>rfl,fun k V=>bz _ _ V⟩ D hs
theorem aD.zy {A:au} {D:St} {w:World} (h:aD A D w) (s:Nat):aD A {D with calls:=D.calls.set s none} w:=by
 refine⟨h.mem.none fun q=>?_,h.ev,h.sl,h.nw,h.nt,h.nv,h.n8,by simpa using h.nc⟩
 cases q<;>first|exact .inl rfl|skip
 all_goals
  rename_i k;simp only[aY,mM,List.getElem?_set]
  by_cases V:s=k
  . right;subst V;rw[aV rfl];by_cases V:s<D.calls.length<;>simp[V]
  . left;rw[aX V]
theorem aD.I1 {A:au} {D:St} {w:World} (h:aD A D w) {s:Nat} (hs:s<8):aD A {D with ag:=D.ag.set s none} (w.setCell (J A.Y (5+s)) (.pointer none))∧Grow A.L w A.L (w.setCell (J A.Y (5+s)) (.pointer none)):=by
 have g:=h.mem.cK (r:=.eH) rfl (5+s) (.pointer none);have h1:=h.mem.put .eH rfl (5+s) (.pointer none);have n8:=h.n8;refine⟨⟨h1.none fun q=>?_,h.ev.grow g,h.sl,h.nw,h.nt,h.nv,by simpa using h.n8,h.nc⟩,g⟩;have ge:∀ k,(D.ag.set s none).getD k none=if k=s then none else D.ag.getD k none:=fun k=>jy _ _ _ _ _ (by omega)
 have tp:∀ k,A.tp {D with ag:=D.ag.set s none} k=if k=s then .pointer none else A.tp D k:=by
  intro k;unfold au.tp;simp only[ge];by_cases V:k=s<;>simp[V]
 cases q<;>first|exact .inl rfl|skip
 case eH=>
  left;simp only[gI,aV,aY,mo,tp]
  match s,hs with
  |0,_|1,_|2,_|3,_|4,_|5,_|6,_|7,_=>rfl
 all_goals
  simp only[aY,gI,ge]
  first
   | (rename_i k; by_cases V : k = s
      . right;rw[aV V]
      . left;rw[aX V];simp)
   | (rename_i k j; by_cases V : k = s
      . right;rw[aV V];rfl
      . left;rw[aX V];simp)
end Go.Proofs.YthicolbbmjfkfaaGreat.Em
namespace Go.Proofs.YthicolbbmjfkfaaGreat.Em
open Go.ChangeShapes Go.WideShapes Go.ChangeAt Go.RowKit En
/- Pairs of cells. -/
theorem xX (l:List (Value×Value)) (i:Nat) {p:Value×Value} (h:l[i]? =some p):(two l)[2*i]? =some p.1∧(two l)[2*i+1]? =some p.2:=by
 induction l generalizing i with
 |nil=>simp at h
 |cons a l ih=>
  cases i with
  |zero=>simp at h;subst h;exact⟨rfl,rfl⟩
  |succ i=>
   have:=ih i (by simpa using h);have e1:2*(i+1)=2*i+1+1:=by omega
   simp only[two,List.flatMap_cons,e1] at*;exact⟨by simpa using this.1,by simpa using this.2⟩
theorem tK (l:List (Value×Value)) (i:Nat) (v:Value) {p:Value×Value} (h:l[i]? =some p):(two l).set (2*i+1) v=two (l.set i (p.1,v)):=by
 induction l generalizing i with
 |nil=>simp at h
 |cons a l ih=>
  cases i with
  |zero=>simp at h;subst h;rfl
  |succ i=>
   have:=ih i (by simpa using h);have e1:2*(i+1)+1=2*i+1+1+1:=by omega
   simp only[two,List.flatMap_cons,e1,List.set_cons_succ] at*
   simpa using this
theorem zC (l:List (Value×Value)) (i:Nat) (v:Value) {p:Value×Value} (h:l[i]? =some p):(two l).set (2*i) v=two (l.set i (v,p.2)):=by
 induction l generalizing i with
 |nil=>simp at h
 |cons a l ih=>
  cases i with
  |zero=>simp at h;subst h;rfl
  |succ i=>
   have:=ih i (by simpa using h);have e1:2*(i+1)=2*i+1+1:=by omega
   simp only[two,List.flatMap_cons,e1,List.set_cons_succ] at*
   simpa using this
theorem BR (l:List (Value×Value)):(two l).length=2*l.length:=by
 induction l with
 |nil=>rfl
 |cons a l ih=>simp only[two,List.flatMap_cons,jF,List.length_cons,List.length_nil] at *;omega
theorem aD.role {A:au} {D bE:St} {w G:World} (h:aD A D w) (hm:Holds A.L G (aY A bE)) (g:Grow A.L w A.L G) (h0:bE.aP=D.aP) (h1:bE.aC=D.aC) (h2:bE.words.length=D.words.length) (h3:bE.tags.length=D.tags.length) (h4:bE.values.length=D.values.length) (h5:bE.ag.length=D.ag.length) (h6:bE.calls.length=D.calls.length):aD A bE G:=
 ⟨hm,by rw[h0];exact h.ev.grow g,by rw[h1];exact h.sl,by rw[h2,h1];exact h.nw,by rw[h3,h1];exact h.nt,by rw[h4,h1];exact h.nv,h5.trans h.n8,h6.trans h.nc⟩
theorem kS {α:Type} (l:List α) (i:Nat) (d:α) (h:i<l.length):l[i]? =some (l.getD i d):=by simp[mM,h]
theorem aD.val {A:au} {D:St} {w:World} (h:aD A D w) {i:Nat} (hi:i<D.aC):w.cell? ⟨A.bv,2*i,none⟩=some (I ((D.values.getD i (0,0)).1:Int))∧w.cell? ⟨A.bv,2*i+1,none⟩=some (I ((D.values.getD i (0,0)).2:Int)):=by
 have e:(D.values.map fun p=>(i64 p.1,i64 p.2))[i]? =some (i64 (D.values.getD i (0,0)).1,i64 (D.values.getD i (0,0)).2):=by
  rw[List.getElem?_map,kS D.values i (0,0) (by rw[h.nv];exact hi)];rfl
 have:=xX _ i e;exact⟨h.mem.cell (r:=.values) rfl _ this.1,h.mem.cell (r:=.values) rfl _ this.2⟩
theorem aD.Oi {A:au} {D:St} {w:World} (h:aD A D w) (i:Nat):w.frozen? (J A.bv i)=false:=h.mem.frozen (r:=.values) rfl i
theorem mq (A:au) (D:St) (l:List (Nat×Nat)) {q:bN} (hq:q≠.values):aY A {D with values:=l} q=aY A D q:=by cases q<;>first|rfl|exact absurd rfl hq
theorem aD.Lx {A:au} {D:St} {w:World} (h:aD A D w) {i:Nat} (hi:i<D.aC) (n:Nat):
 aD A {D with values:=D.values.set i ((D.values.getD i (0,0)).1,n)} (w.setCell ⟨A.bv,2*i+1,none⟩ (I n))∧Grow A.L w A.L (w.setCell ⟨A.bv,2*i+1,none⟩ (I n)):=by
 have g:=h.mem.cK (r:=.values) rfl (2*i+1) (I n);have e:(D.values.map fun p=>(i64 p.1,i64 p.2))[i]? =some (i64 (D.values.getD i (0,0)).1,i64 (D.values.getD i (0,0)).2):=by
  rw[List.getElem?_map,kS D.values i (0,0) (by rw[h.nv];exact hi)];rfl
 refine⟨h.role (h.mem.set .values rfl _ _ ?_ fun q hq=>mq A D _ hq) g rfl rfl rfl rfl (by simp) rfl rfl,g⟩;show Entry.obj A.bv (two _) 190=_;rw[mQ,tK _ _ _ e,List.map_set]
theorem aD.LA {A:au} {D:St} {w:World} (h:aD A D w) {i:Nat} (hi:i<D.aC) (k n:Nat):
 aD A {D with values:=D.values.set i (k,n)} (w.setCells A.bv (2*i) [I k,I n])∧Grow A.L w A.L (w.setCells A.bv (2*i) [I k,I n]):=by
 have e:(D.values.map fun p=>(i64 p.1,i64 p.2))[i]? =some (i64 (D.values.getD i (0,0)).1,i64 (D.values.getD i (0,0)).2):=by
  rw[List.getElem?_map,kS D.values i (0,0) (by rw[h.nv];exact hi)];rfl
 obtain⟨h2,g⟩:=Holds.puts .values (by simp) [I k,I n] (2*i) h.mem (m:=aY A D) (cs:=mQ D) (b:=A.bv) (T:=190) rfl;refine⟨h.role (h2.of_eq fun q=>?_) g rfl rfl rfl rfl (by simp) rfl rfl,g⟩
 by_cases hq:q=.values
 . subst hq
   rw[iq];show Entry.obj A.bv (two _) 190=_;have e2:((D.values.map fun p=>(i64 p.1,i64 p.2)).set i (I k,i64 (D.values.getD i (0,0)).2))[i]? =some (I k,i64 (D.values.getD i (0,0)).2):=by
    rw[List.getElem?_set];simp[h.nv,hi]
   simp only[sets,mQ];rw[zC _ _ _ e,tK _ _ _ e2,List.map_set,List.set_set]
 . rw[bJ _ _ hq,mq A D _ hq]
/- The pool. -/
theorem aD.tag {A:au} {D:St} {w:World} (h:aD A D w) {i:Nat} (hi:i<D.aC):w.cell? ⟨A.bs,2*i,none⟩=some (I ((D.tags.getD i (0,false)).1:Int))∧w.cell? ⟨A.bs,2*i+1,none⟩=some (.bool (D.tags.getD i (0,false)).2):=by
 have e:(D.tags.map fun p=>(i64 p.1,Value.bool p.2))[i]? =some (i64 (D.tags.getD i (0,false)).1,Value.bool (D.tags.getD i (0,false)).2):=by
  rw[List.getElem?_map,kS D.tags i (0,false) (by rw[h.nt];exact hi)];rfl
 have:=xX _ i e;exact⟨h.mem.cell (r:=.tags) rfl _ this.1,h.mem.cell (r:=.tags) rfl _ this.2⟩
theorem aD.LB {A:au} {D:St} {w:World} (h:aD A D w) (i:Nat):w.frozen? (J A.bs i)=false:=h.mem.frozen (r:=.tags) rfl i
theorem nU (A:au) (D:St) (l:List (Nat×Bool)) {q:bN} (hq:q≠.tags):aY A {D with tags:=l} q=aY A D q:=by cases q<;>first|rfl|exact absurd rfl hq
theorem aD.zD {A:au} {D:St} {w:World} (h:aD A D w) {i:Nat} (hi:i<D.aC) (b:Bool):
 aD A {D with tags:=D.tags.set i ((D.tags.getD i (0,false)).1,b)} (w.setCell ⟨A.bs,2*i+1,none⟩ (.bool b))∧Grow A.L w A.L (w.setCell ⟨A.bs,2*i+1,none⟩ (.bool b)):=by
 have g:=h.mem.cK (r:=.tags) rfl (2*i+1) (.bool b);have e:(D.tags.map fun p=>(i64 p.1,Value.bool p.2))[i]? =some (i64 (D.tags.getD i (0,false)).1,Value.bool (D.tags.getD i (0,false)).2):=by
  rw[List.getElem?_map,kS D.tags i (0,false) (by rw[h.nt];exact hi)];rfl
 refine⟨h.role (h.mem.set .tags rfl _ _ ?_ fun q hq=>nU A D _ hq) g rfl rfl rfl (by simp) rfl rfl rfl,g⟩;show Entry.obj A.bs (two _) 243=_;rw[wH,tK _ _ _ e,List.map_set]
theorem aD.LC {A:au} {D:St} {w:World} (h:aD A D w) {i:Nat} (hi:i<D.aC) (n:Nat):
 aD A {D with tags:=D.tags.set i (n,(D.tags.getD i (0,false)).2)} (w.setCell ⟨A.bs,2*i,none⟩ (I n))∧Grow A.L w A.L (w.setCell ⟨A.bs,2*i,none⟩ (I n)):=by
 have g:=h.mem.cK (r:=.tags) rfl (2*i) (I n);have e:(D.tags.map fun p=>(i64 p.1,Value.bool p.2))[i]? =some (i64 (D.tags.getD i (0,false)).1,Value.bool (D.tags.getD i (0,false)).2):=by
  rw[List.getElem?_map,kS D.tags i (0,false) (by rw[h.nt];exact hi)];rfl
 refine⟨h.role (h.mem.set .tags rfl _ _ ?_ fun q hq=>nU A D _ hq) g rfl rfl rfl (by simp) rfl rfl rfl,g⟩;show Entry.obj A.bs (two _) 243=_;rw[wH,zC _ _ _ e,List.map_set]
theorem aD.bK {A:au} {D:St} {w:World} (h:aD A D w) (i:Nat) {v:Value} (hv:(kF A D)[i]? =some v):w.cell? (J A.bp i)=some v:=h.mem.cell (r:=.bK) rfl i hv
theorem aD.tL {A:au} {D:St} {w:World} (h:aD A D w) (i:Nat):w.frozen? (J A.bp i)=false:=h.mem.frozen (r:=.bK) rfl i
def au.Dr (A:au) (v:Value):au:={A with L:=tF A.L v .free,eO:=v}
theorem aD.LD {A:au} {D:St} {w H:World} (h:aD A D w) (l:List Nat) (v':Value)
 (hg:w.grownBy H A.eO.ownBlock) (ho:H.ownsRow 0 3 1 v' l.length (l.map i64)) (hw:v'.ownBlock=A.eO.ownBlock∨∀ g,v'.ownBlock=some g->w.heap.size<=g):
 aD (A.Dr v') {D with free:=l} (H.setCell (J A.bp 2) v')∧Grow A.L w (A.Dr v').L (H.setCell (J A.bp 2) v')∧H.cell? (J A.bp 2)=some A.eO∧H.frozen? (J A.bp 2)=false:=by
 obtain⟨h1,g1⟩:=h.mem.grown .free rfl hg ho hw;have e2:gI (aY A D) .free (.own v' 3 1 l.length (l.map i64)) .bK=.obj A.bp (kF A D) 208:=rfl;have h2:=h1.put .bK e2 2 v';have g:=g1.trans (h1.cK e2 2 v');refine⟨⟨h2.of_eq fun q=>?_,h.ev.grow g,h.sl,h.nw,h.nt,h.nv,h.n8,h.nc⟩,g,h1.cell e2 2 rfl,h1.frozen e2 2⟩
 cases q<;>rfl
theorem aD.I4 {A:au} {D:St} {w:World} (h:aD A D w) (l:List Nat) (v':Value) (ho:w.ownsRow 0 3 1 v' l.length (l.map i64)) (hv:v'.ownBlock=A.eO.ownBlock):
 aD {A with eO:=v'} {D with free:=l} (w.setCell (J A.bp 2) v')∧Grow A.L w A.L (w.setCell (J A.bp 2) v'):=by
 have h1:=h.mem.shrink .free (m:=aY A D) rfl ho (.inl hv);have e2:gI (aY A D) .free (.own v' 3 1 l.length (l.map i64)) .bK=.obj A.bp (kF A D) 208:=rfl;have h2:=h1.put .bK e2 2 v';have g:=h1.cK e2 2 v';refine⟨⟨h2.of_eq fun q=>?_,h.ev.grow g,h.sl,h.nw,h.nt,h.nv,h.n8,h.nc⟩,g⟩
 cases q<;>rfl
theorem aD.I5 {A:au} {D:St} {w:World} (h:aD A D w) (n:Nat):aD A {D with iA:=n} (w.setCell (J A.bp 3) (I n))∧Grow A.L w A.L (w.setCell (J A.bp 3) (I n)):=by
 have g:=h.mem.cK (r:=.bK) rfl 3 (I n);exact⟨h.role (h.mem.set .bK rfl _ _ rfl fun q hq=>by cases q<;>first|rfl|exact absurd rfl hq) g rfl rfl rfl rfl rfl rfl rfl,g⟩
theorem LF (A:au) (D:St) (m:Int) {q:bN} (hq:q≠.bK):aY {A with mp:=m} D q=aY A D q:=by cases q<;>first|rfl|exact absurd rfl hq
theorem aD.zF {A:au} {D:St} {w:World} (h:aD A D w) (m:Int):aD {A with mp:=m} D (w.setCell (J A.bp 5) (.int .i32 m))∧Grow A.L w A.L (w.setCell (J A.bp 5) (.int .i32 m)):=by
 have g:=h.mem.cK (r:=.bK) rfl 5 (.int .i32 m);exact⟨⟨h.mem.set .bK rfl _ _ rfl fun q hq=>LF A D m hq,h.ev.grow g,h.sl,h.nw,h.nt,h.nv,h.n8,h.nc⟩,g⟩
theorem aD.FP {A:au} {D:St} {w:World} (h:aD A D w):aD A {D with listed:=true} (w.setCell (J A.bp 4) (.int .u32 1))∧Grow A.L w A.L (w.setCell (J A.bp 4) (.int .u32 1)):=by
 have g:=h.mem.cK (r:=.bK) rfl 4 (.int .u32 1);exact⟨h.role (h.mem.set .bK rfl _ _ rfl fun q hq=>by cases q<;>first|rfl|exact absurd rfl hq) g rfl rfl rfl rfl rfl rfl rfl,g⟩
end Go.Proofs.YthicolbbmjfkfaaGreat.Em
namespace Go.Proofs.YthicolbbmjfkfaaGreat.Em
open Go.ChangeShapes Go.WideShapes Go.ChangeAt Go.RowKit En
theorem mR (l:List (Nat×jr)) (E:Nat) (x:jr) (k:Nat):(upd l E x).lookup k=if k=E then (l.lookup k).map (fun _=>x) else l.lookup k:=by
 induction l with
 |nil=>simp[upd]
 |cons p l ih=>
  obtain⟨a,y⟩:=p;simp only[upd,List.map_cons] at*
  by_cases h1:a=E
  . subst h1
    simp only[aV,List.lookup_cons]
    by_cases h2:k=a
    . subst h2;simp
    . simp only[beq_false_of_ne h2,ih,aX h2]
  . simp only[aX h1,List.lookup_cons]
    by_cases h2:k=a
    . subst h2;simp[h1]
    . simp only[beq_false_of_ne h2,ih]
theorem Er (A:au) (s:Nat) (t:bB) (E:Nat) (x:jr):fV A s {t with cells:=upd t.cells E x}=fV A s t:=by
 have e:(upd t.cells E x).map (·.1)=t.cells.map (·.1):=by
  unfold upd;rw[List.map_map];refine List.map_congr_left fun p _=>?_
  simp only[Function.comp]
  split
  . rename_i h;exact h.symm
  . rfl
 have e2:∀ (l:List (Nat×jr)),(l.reverse.zipIdx.map fun p=>(⟨i64 p.1.1,ptr (A.bx s p.1.1),p.2⟩:MapEntry))=((l.map (·.1)).reverse.zipIdx.map fun p=>(⟨i64 p.1,ptr (A.bx s p.1),p.2⟩:MapEntry)):=by
  intro l;rw[<-List.map_reverse,List.zipIdx_map];simp[List.map_map,Function.comp_def]
 unfold fV;rw[e2,e2];simp only;rw[e]
theorem mr {A:au} {D:St} {s:Nat} {t:bB} (ht:D.ag.getD s none=some t) {E:Nat} {x:jr} (hx:t.cell E=some x):aY A D (.cell s E)=.obj (A.bx s E) (qf x) 225:=by
 simp only[aY,ht,Option.bind_some,hx]
theorem aD.BS {A:au} {D:St} {w:World} (h:aD A D w) {s:Nat} {t:bB} (ht:D.ag.getD s none=some t) {E:Nat} {x:jr} (hx:t.cell E=some x):
 zV w (A.bx s E) 0 x.own∧zV w (A.bx s E) 1 x.old∧zB w (A.bx s E) 2 x.there:=
 ⟨h.mem.cell (mr ht hx) 0 rfl,h.mem.cell (mr ht hx) 1 rfl,h.mem.cell (mr ht hx) 2 rfl⟩
theorem aD.Es {A:au} {D:St} {w:World} (h:aD A D w) {s:Nat} {t:bB} (ht:D.ag.getD s none=some t) {E:Nat} {x:jr} (hx:t.cell E=some x) (i:Nat):w.frozen? (J (A.bx s E) i)=false:=h.mem.frozen (mr ht hx) i
theorem aD.qY {A:au} {D:St} {w:World} (h:aD A D w) {s:Nat} {t:bB} (ht:D.ag.getD s none=some t) {E:Nat} {x:jr} (hx:t.cell E=some x) (x':jr) (i:Nat) (v:Value) (hcs:qf x'=(qf x).set i v):
 aD A (D.bq s {t with cells:=upd t.cells E x'}) (w.setCell (J (A.bx s E) i) v)∧Grow A.L w A.L (w.setCell (J (A.bx s E) i) v):=by
 have g:=h.mem.cK (mr ht hx) i v;refine⟨h.role (h.mem.set (.cell s E) (mr ht hx) i v ?_ ?_) g rfl rfl rfl rfl rfl (by simp[St.bq]) rfl,g⟩
 . rw[gK A _ (s:=s) rfl,cO (cz ht),aV rfl]
   have:(upd t.cells E x').lookup E=some x':=by rw[mR,aV rfl];unfold bB.cell at hx;rw[hx];rfl
   simp only[fP,Option.bind_some,bB.cell,this,hcs]
 . intro q hq
   by_cases hs:q.tx=some s
   . rw[gK A _ hs,gK A _ hs,cO (cz ht),aV rfl,ht]
     cases q<;>simp[bN.tx] at hs<;>subst hs<;>first|rfl|skip
     . simp only[fP,Er];simp[upd]
     . rename_i k
       have V:k≠E:=by rintro rfl;exact hq rfl
       simp only[fP,Option.bind_some,bB.cell,mR,aX V]
   . exact iN A ht _ hs
theorem qw {A A':au} {s:Nat} (h:A.K8 A' s) (h1:A'.bm=A.bm) (h2:A'.bx=A.bx) (h3:A'.dR=A.dR) (h4:A'.eu=A.eu) (h5:A'.dN=A.dN) (D:St) {q:bN} (hq:q≠.dZ s):aY A' D q=aY A D q:=by
 by_cases hs:q.tx=some s
 . rw[gK _ _ hs,gK _ _ hs]
   cases q<;>simp[bN.tx] at hs<;>subst hs<;>first|exact absurd rfl hq|(simp only[fP,h1,h2,h3,h4,h5,fV];done)
 . exact kQ h D hs
theorem aD.Dt {A:au} {D:St} {w:World} (h:aD A D w) {s:Nat} {t:bB} (ht:D.ag.getD s none=some t) (m:Int):aD {A with mt:=fun k=>if k=s then m else A.mt k} D (w.setCell (J (A.bt s) 11) (.int .i32 m))∧Grow A.L w A.L (w.setCell (J (A.bt s) 11) (.int .i32 m)):=by
 have g:=h.mem.cK (iM ht) 11 (.int .i32 m);refine⟨⟨h.mem.set (.dZ s) (iM ht) _ _ ?_ fun q hq=>?_,h.ev.grow g,h.sl,h.nw,h.nt,h.nv,h.n8,h.nc⟩,g⟩
 . rw[iM ht];simp[dS,iC]
 . exact qw (A:=A) (A':={A with mt:=fun k=>if k=s then m else A.mt k}) (s:=s) ⟨rfl,rfl,rfl,rfl,rfl,rfl,rfl,rfl,rfl,rfl,rfl,rfl,rfl,rfl,rfl,rfl,rfl,fun _ _=>rfl,fun _ _=>rfl,fun _ _=>rfl,fun _ _=>rfl,fun _ _=>rfl,fun k V=>aX V,fun _ _=>rfl⟩ rfl rfl rfl rfl rfl D hq
theorem aD.I6 {A:au} {D:St} {w:World} (h:aD A D w) {s:Nat} {t:bB} (ht:D.ag.getD s none=some t) (b:Bool):aD {A with jZ:=fun k=>if k=s then b else A.jZ k} D (w.setCell (J (A.bt s) 13) (.bool b))∧Grow A.L w A.L (w.setCell (J (A.bt s) 13) (.bool b)):=by
 have g:=h.mem.cK (iM ht) 13 (.bool b);refine⟨⟨h.mem.set (.dZ s) (iM ht) _ _ ?_ fun q hq=>?_,h.ev.grow g,h.sl,h.nw,h.nt,h.nv,h.n8,h.nc⟩,g⟩
 . rw[iM ht];simp[dS,iC]
 . exact qw (A:=A) (A':={A with jZ:=fun k=>if k=s then b else A.jZ k}) (s:=s) ⟨rfl,rfl,rfl,rfl,rfl,rfl,rfl,rfl,rfl,rfl,rfl,rfl,rfl,rfl,rfl,rfl,rfl,fun _ _=>rfl,fun _ _=>rfl,fun _ _=>rfl,fun _ _=>rfl,fun _ _=>rfl,fun _ _=>rfl,fun k V=>aX V⟩ rfl rfl rfl rfl rfl D hq
theorem aD.I7 {A:au} {D:St} {w:World} (h:aD A D w) {s:Nat} {t:bB} (ht:D.ag.getD s none=some t):aD A (D.bq s {t with over:=true}) (w.setCell (J (A.bt s) 10) (.int .u32 1))∧Grow A.L w A.L (w.setCell (J (A.bt s) 10) (.int .u32 1)):=
 h.BQ ht {t with over:=true} 10 (.int .u32 1) (by simp[dS,iC]) rfl rfl rfl rfl
def au.fQ (A:au) (s b:Nat) (v:Value):au:={A with L:=gU A.L b (.call s),bc:=fun k=>if k=s then b else A.bc k,aW:=jI A.aW s v,aR:=jI A.aR s (.slice none 0 0)}
theorem rV {L:cZ} {w H:World} (hB:Below w.heap.size w H) {b:Nat} (Z:w.heap.size<=b) (r:bN):Grow L w (gU L b r) H:=(Grow.below hB).gU Z r
theorem aD.fQ {A:au} {D:St} {w H:World} (h:aD A D w) (hB:Below w.heap.size w H) {s b:Nat} (hs:s<8) (Z:w.heap.size<=b) (v:Value) (c:dF) (hc:c.r.aB=[]) (he:H.heap[b]? =some (.cells (eD (A.fQ s b v) s c).toArray 141)) (hn:D.calls.getD s none=none):
 aD (A.fQ s b v) (D.aF s c) H∧Grow A.L w (A.fQ s b v).L H:=by
 have hlt:b<H.heap.size:=eQ he;have g:Grow A.L w (gU A.L b (.call s)) H:=rV hB Z _;have h1:=(h.mem.below hB).Dm (.call s) (h.mem.fresh b Z) (.obj b (eD (A.fQ s b v) s c) 141) ⟨gH _ _ _,he⟩ hlt;refine⟨⟨?_,h.ev.grow g,h.sl,h.nw,h.nt,h.nv,h.n8,by simpa [St.aF] using h.nc⟩,g⟩;have h2:Holds (gU A.L b (.call s)) H (gI (gI (aY A D) (.call s) (.obj b (eD (A.fQ s b v) s c) 141)) (.aB s) (.own (.slice none 0 0) 152 2 0 [])):=by
  refine⟨fun q=>?_,h1.fresh⟩
  by_cases hq:q=.aB s
  . subst hq;rw[iq];exact⟨World.ownsRow_nil H 0 152 2,fun g hg=>by cases hg⟩
  . rw[bJ _ _ hq];exact h1.all q
 refine h2.of_eq fun q=>?_
 by_cases hs2:q.cl=some s
 . rw[jd _ _ hs2,bS (by rw[h.nc];exact hs),aV rfl]
   cases q<;>simp[bN.cl] at hs2<;>subst hs2<;>simp[lN,gI,au.fQ,jI,hc,bI,two]
 . have e3:q≠.aB s:=by rintro rfl;exact hs2 rfl
   have e4:q≠.call s:=by rintro rfl;exact hs2 rfl
   rw[bJ _ _ e3,bJ _ _ e4];have:=oM (A:=A) (A':=A.fQ s b v) ⟨rfl,rfl,rfl,rfl,rfl,rfl,rfl,rfl,rfl,rfl,rfl,rfl,rfl,rfl,rfl,rfl,rfl,rfl,rfl,rfl,rfl,fun k V=>aX V,fun k V=>bz _ _ V,fun k V=>bz _ _ V⟩ (D.aF s c) hs2;rw[this]
   cases hq:q.cl with
   |none=>cases q<;>first|rfl|(simp[bN.cl] at hq;done)
   |some k=>
    have V:k≠s:=by rintro rfl;exact hs2 hq
    rw[jd A _ hq,jd A _ hq,bS (by rw[h.nc];exact hs),aX V]
def au.fu (A:au) (s b m:Nat):au:=
 {A with L:=gU (gU A.L b (.dZ s)) m (.map s),bt:=fun k=>if k=s then b else A.bt k,bm:=fun k=>if k=s then m else A.bm k,dR:=jI A.dR s (.slice none 0 0),eu:=jI A.eu s (.slice none 0 0),dN:=jI A.dN s (.slice none 0 0),mt:=fun k=>if k=s then 0 else A.mt k,jZ:=fun k=>if k=s then false else A.jZ k}
def au.je (A:au) (s E b:Nat):au:={A with L:=gU A.L b (.cell s E),bx:=fun k j=>if k=s∧j=E then b else A.bx k j}
theorem BU (A:au) (s:Nat) (t:bB) (E b:Nat) (x:jr) (hx:∀ p∈t.cells,p.1≠E):fV (A.je s E b) s {t with cells:=(E,x)::t.cells}=fV A s t++[⟨i64 E,ptr b,t.cells.length⟩]:=by
 unfold fV;rw[List.reverse_cons,List.zipIdx_append,List.map_append]
 congr 1
 . refine List.map_congr_left fun p hp=>?_
   have h1:p.1∈t.cells:=by
    have:=List.fst_mem_of_mem_zipIdx hp;exact List.mem_reverse.1 this
   simp[au.je,hx _ h1]
 . simp[au.je]
end Go.Proofs.YthicolbbmjfkfaaGreat.Em
namespace Go.Proofs.YthicolbbmjfkfaaGreat.Em
open Go.ChangeShapes Go.WideShapes Go.ChangeAt Go.RowKit En
theorem nV {l:List (Nat×jr)} {E:Nat} (h:l.lookup E=none):∀ p∈l,p.1≠E:=by
 induction l with
 |nil=>intro p hp;simp at hp
 |cons a l ih=>
  obtain⟨k,x⟩:=a;rw[List.lookup_cons] at h;intro p hp
  by_cases V:E=k
  . subst V;simp at h
  . rw[beq_false_of_ne V] at h
    rcases List.mem_cons.1 hp with rfl|hp
    . exact fun e=>V e.symm
    . exact ih h p hp
theorem mem_map {A:au} {D:St} {s:Nat} {t:bB} (ht:D.ag.getD s none=some t):aY A D (.map s)=.map (A.bm s) (fV A s t) t.cells.length:=by simp only[aY,ht]
theorem aD.map {A:au} {D:St} {w:World} (h:aD A D w) {s:Nat} {t:bB} (ht:D.ag.getD s none=some t):w.heap[A.bm s]? =some (.map (fV A s t).toArray t.cells.length):=by
 have k:=h.mem.all (.map s);rw[mem_map ht] at k;exact k.2
theorem aD.je {A:au} {D:St} {w H w2:World} (h:aD A D w) (hB:Below w.heap.size w H) {s b:Nat} {t:bB} (ht:D.ag.getD s none=some t) {E:Nat} (hx:t.cell E=none) (Z:w.heap.size<=b) (x:jr)
 (he:H.heap[b]? =some (.cells (qf x).toArray 225)) (hg:H.grownBy w2 (some (A.bm s))) (hm:w2.heap[A.bm s]? =some (.map (fV A s t++[(⟨i64 E,ptr b,t.cells.length⟩:MapEntry)]).toArray (t.cells.length+1))) (hz:w2.heap.size=H.heap.size):
 aD (A.je s E b) (D.bq s {t with cells:=(E,x)::t.cells}) w2∧Grow A.L w (A.je s E b).L w2:=by
 have hx':=nV hx;have hlt:b<H.heap.size:=eQ he;have hmap:=h.map ht;have hlm:=(h.mem.all (.map s))
 rw[mem_map ht] at hlm;have Oj:=h.mem.fresh b Z;have hne:b≠A.bm s:=by rintro rfl;rw[hlm.1] at Oj;cases Oj
 have k1:=(h.mem.below hB).Dm (.cell s E) Oj (.obj b (qf x) 225) ⟨gH _ _ _,he⟩ hlt;have g1:Grow A.L w (gU A.L b (.cell s E)) H:=rV hB Z _;have QH:gU A.L b (.cell s E) (A.bm s)=some (.map s):=(di (Ne.symm hne)).trans hlm.1;have k2:Holds (gU A.L b (.cell s E)) w2 (gI (gI (aY A D) (.cell s E) (.obj b (qf x) 225)) (.map s) (.map (A.bm s) (fV A s t++[(⟨i64 E,ptr b,t.cells.length⟩:MapEntry)]) (t.cells.length+1))):=by
  refine k1.upd (.map s) ?_ (fun q hq=>bJ _ _ hq) (fun c q hc hl hq=>hg.block c hc ?_) (fun _ _=>rfl) (fun c hc=>k1.fresh c (by omega))
  . rw[iq];exact⟨QH,hm⟩
  . intro e
    obtain rfl:c=A.bm s:=by simpa using e
    rw[QH] at hl;exact hq (zj hl).symm
 have g2:Grow (gU A.L b (.cell s E)) H (gU A.L b (.cell s E)) w2:=by
  refine Grow.grown hg fun g hg'=>?_
  obtain rfl:A.bm s=g:=by simpa using hg'
  rw[QH];simp
 have g:=g1.trans g2;refine⟨⟨k2.of_eq fun q=>?_,h.ev.grow g,h.sl,h.nw,h.nt,h.nv,by simpa [St.bq] using h.n8,h.nc⟩,g⟩;have gt:∀ k,(D.bq s {t with cells:=(E,x)::t.cells}).ag.getD k none=if k=s then some {t with cells:=(E,x)::t.cells} else D.ag.getD k none:=fun k=>cO (cz ht) _ k
 have hb1:∀ k,k≠s->∀ j,(A.je s E b).bx k j=A.bx k j:=fun k V j=>aX (fun e=>V e.1)
 by_cases hs:q.tx=some s
 . rw[gK _ _ hs,gt,aV rfl]
   unfold gI;rw[gK A _ hs,ht]
   cases q<;>simp[bN.tx] at hs<;>(have hs:=hs.symm;subst hs)
   . simp[fP,dS,au.je]
   . simp only[fP,aV,BU _ _ _ _ _ _ hx'];rfl
   . rename_i j
     by_cases hj:j=E
     . subst hj;simp[fP,bB.cell,au.je]
     . have e1:(bN.cell s j=bN.map s)=False:=by simp
       have e2:(bN.cell s j=bN.cell s E)=False:=by simp[hj]
       have e3:((E,x)::t.cells).lookup j=t.cells.lookup j:=by rw[List.lookup_cons,beq_false_of_ne hj]
       simp only[fP,Option.bind_some,bB.cell,e3,e1,e2,if_false,au.je];simp[hj]
   . simp[fP,au.je]
   . simp[fP,au.je]
   . simp[fP,au.je]
 . have e3:q≠.map s:=by rintro rfl;exact hs rfl
   have e4:q≠.cell s E:=by rintro rfl;exact hs rfl
   rw[bJ _ _ e3,bJ _ _ e4,iN _ ht _ hs];exact kQ (A:=A) (A':=A.je s E b) ⟨rfl,rfl,rfl,rfl,rfl,rfl,rfl,rfl,rfl,rfl,rfl,rfl,rfl,rfl,rfl,rfl,rfl,fun _ _=>rfl,fun k V=>funext fun j=>hb1 k V j,fun _ _=>rfl,fun _ _=>rfl,fun _ _=>rfl,fun _ _=>rfl,fun _ _=>rfl⟩ D hs
end Go.Proofs.YthicolbbmjfkfaaGreat.Em
