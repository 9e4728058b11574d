import Derived.Test.YthicolbbmjfkfaaGreatQf0
import Derived.Test.YthicolbbmjfkfaaGreatProg
import Derived.WalkKit
import Derived.ProofKit
import Derived.Laws.AppendOwn
import Derived.Laws.NewBlocks
import Derived.Laws.CopyOwn
import Derived.Laws.OwnMore
import Derived.Deep.Quiet
import Derived.Deep.MidRow
import Derived.Deep.QuietTactic
import Derived.BigQuiet
import Derived.StillTailTactics
set_option linter.unusedVariables false
set_option linter.unusedSimpArgs false
set_option maxRecDepth 100000
set_option maxHeartbeats 1600000
namespace Go.Proofs.YthicolbbmjfkfaaGreat.Em
open Go.ChangeShapes Go.WideShapes Go.ChangeAt Go.RowKit
inductive bW where
 |bT|arena|words|bP|tags|free|values|aQ|cut
 |fI (s:Nat)|map (s:Nat)|cell (s F:Nat)|keys (s:Nat)|reads (s:Nat)|aR (s:Nat)|call (s:Nat)|aL (s:Nat)|tmp
 deriving DecidableEq
abbrev eH:=Nat->Option bW
def jy (L:eH) (b:Nat) (r:bW):eH:=fun k=>if k=b then some r else L k
theorem kG (L:eH) (b:Nat) (r:bW):jy L b r b=some r:=aW rfl
theorem eO {L:eH} {b k:Nat} {r:bW} (h:k≠b):jy L b r k=L k:=bu h
structure Grow (L:eH) (w:World) (L':eH) (E:World):Prop where
 os:E.os=w.os
 tape:E.tape=w.tape
 output:E.output=w.output
 size:w.heap.size<=E.heap.size
 block:∀ b,b<w.heap.size->L b=none->E.heap[b]? =w.heap[b]?
 lab:∀ b,b<w.heap.size->L' b=L b
 keep:∀ b,b<w.heap.size->L b=some .tmp->E.heap[b]? =w.heap[b]?
theorem Grow.refl (L:eH) (w:World):Grow L w L w:=⟨rfl,rfl,rfl,zr _,fun _ _ _=>rfl,fun _ _=>rfl,fun _ _ _=>rfl⟩
theorem Grow.trans {L L1 L2:eH} {w H w2:World} (h:Grow L w L1 H) (k:Grow L1 H L2 w2):Grow L w L2 w2:=
 ⟨k.os.trans h.os, k.tape.trans h.tape, k.output.trans h.output, fq h.size k.size,
   fun b Z hl=>(k.block b (yI Z h.size) (by rw[h.lab b Z];exact hl)).trans (h.block b Z hl),
   fun b Z=>(k.lab b (yI Z h.size)).trans (h.lab b Z),
   fun b Z hl=>(k.keep b (yI Z h.size) (by rw[h.lab b Z];exact hl)).trans (h.keep b Z hl)⟩
theorem Grow.alloc (L:eH) (w:World) (o:Obj):Grow L w L (w.alloc o):=⟨rfl,rfl,rfl,by simp,fun b Z _=>Below.heap_alloc w o b Z,fun _ _=>rfl,fun b Z _=>Below.heap_alloc w o b Z⟩
theorem Grow.drew (L:eH) (w:World):Grow L w L w.drew:=⟨rfl,rfl,rfl,zr _,fun _ _ _=>rfl,fun _ _=>rfl,fun _ _ _=>rfl⟩
theorem zG (L:eH) (w:World):Hid (Grow L w L w.drew):=Grow.drew L w
theorem Grow.drewN (L:eH) (w:World) (n:Nat):Grow L w L (w.drewN n):=⟨rfl,rfl,rfl,zr _,fun _ _ _=>rfl,fun _ _=>rfl,fun _ _ _=>rfl⟩
theorem Grow.setCell {L:eH} {w:World} {a:Addr} (h:w.heap.size<=a.block∨(L a.block≠none∧L a.block≠some .tmp)) (v:Value):Grow L w L (w.setCell a v):=
 ⟨rfl,rfl,rfl,by simp[World.setCell],fun b Z hl=>Below.heap_setCell _ _ _ _ (by rintro rfl;rcases h with h|h;exact absurd Z (by omega);exact h.1 hl),fun _ _=>rfl,fun b Z hl=>Below.heap_setCell _ _ _ _ (by rintro rfl;rcases h with h|h;exact absurd Z (by omega);exact h.2 hl)⟩
theorem Grow.jy {L L':eH} {w E:World} (h:Grow L w L' E) {b:Nat} (Z:w.heap.size<=b) (r:bW):Grow L w (jy L' b r) E:=
 ⟨h.os,h.tape,h.output,h.size,h.block,fun k Y=>(eO (by omega)).trans (h.lab k Y),h.keep⟩
theorem Grow.below {L:eH} {w E:World} (h:Below w.heap.size w E):Grow L w L E:=⟨h.os,h.tape,h.output,h.size,fun b Z _=>h.block b Z,fun _ _=>rfl,fun b Z _=>h.block b Z⟩
theorem Grow.grown {L:eH} {w E:World} {row:Option Nat} (h:w.grownBy E row) (hr:∀ g,row=some g->L g≠none∧L g≠some .tmp):Grow L w L E:=
 ⟨h.os,h.tape,h.output,h.size,fun b Z hl=>h.block b Z (fun e=>(hr b e.symm).1 hl),fun _ _=>rfl,fun b Z hl=>h.block b Z (fun e=>(hr b e.symm).2 hl)⟩
def Fix (L:eH) (w:World) (b:Nat) (o:Obj):Prop:=L b=none∧w.heap[b]? =some o
theorem gH {w:World} {g:Nat} {o:Obj} (h:w.heap[g]? =some o):g<w.heap.size:=(Array.getElem?_eq_some_iff.1 h).1
theorem Fix.grow {L L':eH} {w E:World} {b:Nat} {o:Obj} (h:Fix L w b o) (g:Grow L w L' E):Fix L' E b o:=
 ⟨(g.lab b (gH h.2)).trans h.1,(g.block b (gH h.2) h.1).trans h.2⟩
theorem Fix.alloc {L:eH} {w:World} {o:Obj} (h:L w.heap.size=none):Fix L (w.alloc o) w.heap.size o:=⟨h,heap_alloc_new w o⟩
def aP (L:eH) (w:World) (b:Nat) (v:Value):Prop:=∃ T,Fix L w b (.cells #[v] T)
theorem aP.grow {L L':eH} {w E:World} {b:Nat} {v:Value} (h:aP L w b v) (g:Grow L w L' E):aP L' E b v:=let ⟨T,h⟩:=h;⟨T,h.grow g⟩
theorem aP.cell {L:eH} {w:World} {b:Nat} {v:Value} (h:aP L w b v):w.cell? (J b 0)=some v:=by
 obtain⟨T,h1,h2⟩:=h;rw[cell_of_row w b 0 _ _ _ h2];rfl
inductive Entry where
 |none
 |obj (b:Nat) (cs:List Value) (T:TypeId)
 |own (v:Value) (e:TypeId) (size n:Nat) (xs:List Value)
 |map (b:Nat) (es:List MapEntry) (clock:Nat)
def Entry.Holds (L:eH) (w:World) (r:bW):Entry->Prop
 |.none=>True
 |.obj b cs T=>L b=some r∧w.heap[b]? =some (.cells cs.toArray T)
 |.own v e size n xs=>w.ownsRow 0 e size v n xs∧∀ g,v.ownBlock=some g->L g=some r
 |.map b es clock=>L b=some r∧w.heap[b]? =some (.map es.toArray clock)
theorem lV {w E:World} {base:Nat} {e:TypeId} {size:Nat} {v:Value} {n:Nat} {xs:List Value} (h:w.ownsRow base e size v n xs) (hs:∀ g,v.ownBlock=some g->E.heap[g]? =w.heap[g]?):E.ownsRow base e size v n xs:=by
 refine⟨h.1,?_⟩
 rcases h.2 with h0|⟨g,cap,cur,rfl,h2,h3,h4⟩
 . exact .inl h0
 . exact .inr ⟨g,cap,cur,rfl,h2,by rw[hs g rfl];exact h3,h4⟩
theorem Entry.Holds.frame {L L':eH} {w E:World} {r:bW} {e:Entry} (h:e.Holds L w r) (hs:∀ b,b<w.heap.size->L b=some r->E.heap[b]? =w.heap[b]?) (hl:∀ b,b<w.heap.size->L' b=L b):e.Holds L' E r:=by
 cases e with
 |none=>trivial
 |obj b cs T=>exact⟨(hl b (gH h.2)).trans h.1,(hs b (gH h.2) h.1).trans h.2⟩
 |map b es c=>exact⟨(hl b (gH h.2)).trans h.1,(hs b (gH h.2) h.1).trans h.2⟩
 |own v e size n xs=>
  exact⟨lV h.1 fun g hg=>hs g (h.1.lt g hg).2 (h.2 g hg),fun g hg=>(hl g (h.1.lt g hg).2).trans (h.2 g hg)⟩
structure Holds (L:eH) (w:World) (m:bW->Entry):Prop where
 all:∀ r,(m r).Holds L w r
 fresh:∀ b,w.heap.size<=b->L b=none
theorem Holds.grow {L L':eH} {w E:World} {m:bW->Entry} (h:Holds L w m) (hs:∀ b r,b<w.heap.size->L b=some r->E.heap[b]? =w.heap[b]?) (hl:∀ b,b<w.heap.size->L' b=L b) (hf:∀ b,E.heap.size<=b->L' b=none):Holds L' E m:=
 ⟨fun r=>(h.all r).frame (fun b Z hr=>hs b r Z hr) hl,hf⟩
theorem Holds.below {L:eH} {w E:World} {m:bW->Entry} (h:Holds L w m) (Z:Below w.heap.size w E):Holds L E m:=
 h.grow (fun b r hl _=>Z.block b hl) (fun _ _=>rfl) (fun b hl=>h.fresh b (fq Z.size hl))
theorem Holds.upd {L L':eH} {w E:World} {m m':bW->Entry} (h:Holds L w m) (r:bW) (hr:(m' r).Holds L' E r) (hm:∀ q,q≠r->m' q=m q)
 (hs:∀ b q,b<w.heap.size->L b=some q->q≠r->E.heap[b]? =w.heap[b]?) (hl:∀ b,b<w.heap.size->L' b=L b) (hf:∀ b,E.heap.size<=b->L' b=none):Holds L' E m':=by
 refine⟨fun q=>?_,hf⟩
 by_cases hq:q=r
 . subst hq;exact hr
 . rw[hm q hq]
   exact (h.all q).frame (fun b Z he=>hs b q Z he hq) hl
theorem Holds.set {L:eH} {w:World} {m m':bW->Entry} (h:Holds L w m) (r:bW) {b:Nat} {cs:List Value} {T:TypeId} (he:m r=.obj b cs T) (i:Nat) (v:Value) (he':m' r=.obj b (cs.set i v) T) (hm:∀ q,q≠r->m' q=m q):
 Holds L (w.setCell (J b i) v) m':=by
 have k:=h.all r;rw[he] at k;refine h.upd r ?_ hm (fun c q hc hl hq=>Below.heap_setCell _ _ _ _ ?_) (fun _ _=>rfl) (fun c hc=>h.fresh c (by simpa [World.setCell] using hc))
 . rw[he']
   refine⟨k.1,?_⟩;have:=k.2;simp only[World.setCell,Array.getElem?_modify,this];simp
 . rintro rfl
   rw[k.1] at hl;exact hq (zj hl).symm
theorem Holds.cell {L:eH} {w:World} {m:bW->Entry} (h:Holds L w m) {r:bW} {b:Nat} {cs:List Value} {T:TypeId} (he:m r=.obj b cs T) (i:Nat) {v:Value} (hv:cs[i]? =some v):w.cell? (J b i)=some v:=by
 have k:=h.all r;rw[he] at k;rw[cell_of_row w b i _ _ _ k.2]
 simpa using hv
theorem Holds.frozen {L:eH} {w:World} {m:bW->Entry} (h:Holds L w m) {r:bW} {b:Nat} {cs:List Value} {T:TypeId} (he:m r=.obj b cs T) (i:Nat):w.frozen? (J b i)=false:=by
 have k:=h.all r;rw[he] at k;simp[World.frozen?,k.2]
theorem Holds.lab {L:eH} {w:World} {m:bW->Entry} (h:Holds L w m) {r:bW} {b:Nat} {cs:List Value} {T:TypeId} (he:m r=.obj b cs T):L b=some r:=by
 have k:=h.all r;rw[he] at k;exact k.1
theorem Holds.df {L:eH} {w:World} {m:bW->Entry} (h:Holds L w m) {r:bW} {b:Nat} {cs:List Value} {T:TypeId} (he:m r=.obj b cs T) (i:Nat) (v:Value) (hr:r≠.tmp:=by simp):Grow L w L (w.setCell (J b i) v):=
 Grow.setCell (.inr (by show L b≠none∧L b≠some .tmp;rw[h.lab he];simpa using hr)) v
end Go.Proofs.YthicolbbmjfkfaaGreat.Em
namespace Go.Proofs.YthicolbbmjfkfaaGreat.Em
open Go.ChangeShapes Go.WideShapes Go.ChangeAt Go.RowKit
def iI (m:bW->Entry) (r:bW) (e:Entry):bW->Entry:=fun q=>if q=r then e else m q
theorem fE (m:bW->Entry) (r:bW) (e:Entry):iI m r e r=e:=aW rfl
theorem aT (m:bW->Entry) {r q:bW} (e:Entry) (h:q≠r):iI m r e q=m q:=bu h
theorem Holds.put {L:eH} {w:World} {m:bW->Entry} (h:Holds L w m) (r:bW) {b:Nat} {cs:List Value} {T:TypeId} (he:m r=.obj b cs T) (i:Nat) (v:Value):
 Holds L (w.setCell (J b i) v) (iI m r (.obj b (cs.set i v) T)):=h.set r he i v (fE _ _ _) fun q hq=>aT m _ hq
theorem Holds.MV {L:eH} {w:World} {m:bW->Entry} (h:Holds L w m) {a:Addr} (ha:L a.block=none) (v:Value):Holds L (w.setCell a v) m:=
 h.grow (fun b r Z hl=>Below.heap_setCell _ _ _ _ (by rintro rfl;rw[ha] at hl;cases hl)) (fun _ _=>rfl) (fun b Z=>h.fresh b (by simpa [World.setCell] using Z))
theorem Holds.Ce {L:eH} {w:World} {m:bW->Entry} (h:Holds L w m) (r:bW) {b:Nat} (Z:L b=none) (e:Entry) (he:e.Holds (jy L b r) w r) (hlt:b<w.heap.size):Holds (jy L b r) w (iI m r e):=by
 refine⟨fun q=>?_,fun c hc=>?_⟩
 . by_cases hq:q=r
   . subst hq;rw[fE];exact he
   . rw[aT m _ hq]
     have k:=h.all q
     cases hm:m q with
     |none=>trivial
     |obj c cs T=>rw[hm] at k;exact⟨by rw[eO (by rintro rfl;have k1:=k.1;rw[Z] at k1;cases k1)];exact k.1,k.2⟩
     |map c cs T=>rw[hm] at k;exact⟨by rw[eO (by rintro rfl;have k1:=k.1;rw[Z] at k1;cases k1)];exact k.1,k.2⟩
     |own v e size n xs=>
      rw[hm] at k;refine⟨k.1,fun g hg=>?_⟩;have:=k.2 g hg;rw[eO (by rintro rfl;rw[Z] at this;cases this)];exact this
 . rw[eO (by omega)]
   exact h.fresh c hc
def lW (L:eH) (v:Value) (r:bW):eH:=fun k=>if v.ownBlock=some k then some r else L k
theorem Holds.grown {L:eH} {w E:World} {m:bW->Entry} (h:Holds L w m) (r:bW) {v v':Value} {e:TypeId} {size n n':Nat} {xs xs':List Value} (he:m r=.own v e size n xs)
 (hg:w.grownBy E v.ownBlock) (ho:E.ownsRow 0 e size v' n' xs') (hw:v'.ownBlock=v.ownBlock∨∀ g,v'.ownBlock=some g->w.heap.size<=g) (hrt:r≠.tmp:=by simp):
 Holds (lW L v' r) E (iI m r (.own v' e size n' xs'))∧Grow L w (lW L v' r) E:=by
 have k:=h.all r;rw[he] at k;have hlab:∀ b,b<w.heap.size->lW L v' r b=L b:=by
  intro b Z;unfold lW
  split
  . rename_i hv
    rcases hw with hw|hw
    . rw[hw] at hv;exact (k.2 b hv).symm
    . exact absurd (hw b hv) (by omega)
  . rfl
 refine⟨h.upd r ?_ (fun q hq=>aT m _ hq) (fun b q Z hl hq=>hg.block b Z ?_) hlab (fun b Z=>?_),⟨hg.os,hg.tape,hg.output,hg.size,fun b Z hl=>hg.block b Z ?_,hlab,fun b Z hl=>hg.block b Z ?_⟩⟩
 . rw[fE]
   exact⟨ho,fun g hg=>aW hg⟩
 . intro e2
   rw[k.2 b e2.symm] at hl;exact hq (zj hl).symm
 . unfold lW
   rw[bu]
   . exact h.fresh b (fq hg.size Z)
   . intro e2
     have:=(ho.lt b e2).2;omega
 . intro e2
   rw[k.2 b e2.symm] at hl
   cases hl
 . intro e2
   rw[k.2 b e2.symm] at hl;exact hrt (zj hl)
theorem Holds.shrink {L:eH} {w:World} {m:bW->Entry} (h:Holds L w m) (r:bW) {v v':Value} {e:TypeId} {size n n':Nat} {xs xs':List Value} (he:m r=.own v e size n xs)
 (ho:w.ownsRow 0 e size v' n' xs') (hv:v'.ownBlock=v.ownBlock∨v'.ownBlock=none):Holds L w (iI m r (.own v' e size n' xs')):=by
 have k:=h.all r;rw[he] at k;refine h.upd r ?_ (fun q hq=>aT m _ hq) (fun b q Z hl hq=>rfl) (fun _ _=>rfl) h.fresh;rw[fE];refine⟨ho,fun g hg=>?_⟩
 rcases hv with hv|hv
 . exact k.2 g (hv ▸ hg)
 . rw[hv] at hg;cases hg
def iJ (L:eH) (w:World) (size:Nat) (v:Value) (xs:List Value):Prop:=
 ∃ a n cap,v=.slice a n cap∧xs.length=n*size∧n<=cap∧cap<=maxLen∧(n=0∨∃ g off,a=za g off∧L g=none∧g<w.heap.size∧∀ j,j<n*size->w.cell? (J g (off+j))=xs[j]?)
theorem iJ.nil (L:eH) (w:World) (size:Nat):iJ L w size (.slice none 0 0) []:=⟨none,0,0,rfl,by simp,by omega,by unfold maxLen;omega,.inl rfl⟩
theorem iJ.grow {L L':eH} {w E:World} {size:Nat} {v:Value} {xs:List Value} (h:iJ L w size v xs) (g:Grow L w L' E):iJ L' E size v xs:=by
 obtain⟨a,n,cap,h1,h2,h3,h4,h5⟩:=h;refine⟨a,n,cap,h1,h2,h3,h4,?_⟩
 rcases h5 with h5|⟨b,off,e1,e2,e3,e4⟩
 . exact .inl h5
 . refine .inr ⟨b,off,e1,(g.lab b e3).trans e2,yI e3 g.size,fun j hj=>?_⟩
   rw[World.cell?_of_block (w:=w) (a:=(J b (off+j))) (g.block b e3 e2)];exact e4 j hj
end Go.Proofs.YthicolbbmjfkfaaGreat.Em
namespace Go.Proofs.YthicolbbmjfkfaaGreat.En
structure Op where
 kind:Nat
 F:Nat
 hi:Nat
 value:Nat
 deriving Repr,DecidableEq,Inhabited
structure mo where
 e:Nat:=0
 value:Nat:=0
 aL:List (Nat×Nat):=[]
 over:Nat:=0
 aI:Nat:=0
 deriving Repr,DecidableEq,Inhabited
structure Ev where
 kind:Nat
 t:Nat
 n:Nat:=0
 op:Op:=⟨0,0,0,0⟩
 res:mo:={}
 deriving Repr,DecidableEq,Inhabited
structure lg where
 own:Nat
 old:Nat
 there:Bool
 deriving Repr,DecidableEq,Inhabited
structure bL where
 id:Nat
 ax:Nat
 aJ:Nat
 ay:Nat
 ops:Nat
 keys:List Nat
 cells:List (Nat×lg)
 reads:List (Nat×Nat×Bool)
 aR:List Nat
 over:Bool
 deriving Repr,DecidableEq,Inhabited
inductive P6 where
 |get
 |scan (F:Nat)
 |change
 |judge (i G:Nat)
 deriving Repr,DecidableEq,Inhabited
structure dR where
 F:Nat
 at_:Nat
 thn:P6
 deriving Repr,DecidableEq,Inhabited
structure yJ where
 at_:Nat
 old:Nat
 new:Nat
 deriving Repr,DecidableEq,Inhabited
inductive K where
 |fin (r:mo)
 |start (h:dR)
 |visit (h:dR) (G:Nat)
 |older (h:dR) (G:Nat)
 |maker (h:dR) (G id:Nat)
 |ended (h:dR) (G lu:Nat)
 |ik (h:dR) (G lu id:Nat)
 |seen (h:dR) (G lu:Nat)
 |again (ay:Nat)
 |own (G:Nat)
 |iw (G w id:Nat)
 |claim (G w:Nat)
 |fresh (G:Nat)
 |next (G head at_:Nat)
 |free (G head at_:Nat)
 |dX (G head at_ id:Nat)
 |fJ (x:Bool) (G head:Nat)
 |eU (x:Bool) (G head:Nat)
 |push (G head:Nat)
 |dV (G head:Nat)
 |over (G:Nat)
 |iB (G head:Nat)
 |eu (G head:Nat)
 |draw
 |eX (w now:Nat)
 |turn (w now:Nat)
 |eB
 |wait (i:Nat)
 |turns (l:List yJ) (r:mo)
 |cZ
 |abort (e aI:Nat)
 deriving Repr,DecidableEq,Inhabited
structure dY where
 op:Op
 k:Option K
 r:mo
 waits:Bool
 over:Bool
 seq:Nat
 deriving Repr,DecidableEq,Inhabited
inductive S where
 |live (s:Nat)
 |head (F:Nat)
 |visit (F ak G:Nat)
 |maker (F ak G id:Nat)
 |dC (F ak G aJ:Nat)
 |on (F G:Nat)
 |unlink (F ak G:Nat)
 |cut (F ak G next:Nat)
 |now
 deriving Repr,DecidableEq,Inhabited
structure St where
 aG:Nat
 limit:Nat
 words:List Nat
 count:Nat
 tags:List (Nat×Bool)
 free:List Nat
 jh:Nat
 listed:Bool
 values:List (Nat×Nat)
 ai:List (Option bL)
 calls:List (Option dY)
 aB:Nat
 seq:Nat
 aA:Nat
 aQ:List Ev
 sw:Option S
 low:Nat
 cut:List (Nat×Nat)
 cuts:Nat
 deriving Repr,DecidableEq,Inhabited
def ever:Nat:=2305843009213693952
def nW:Nat:=4611686018427387904
def tm:Nat:=1099511627776
def rd (w:Nat):Nat×Nat:=
 if w<=tm then (1,w) else if w=ever then (3,0) else if nW<w∧w<=nW+65535 then (2,w - nW) else (0,0)
def ag (G:Nat):Nat:=G % 131072 - 1
def af (G w:Nat):Nat:=73+ag G*3+w
def St.place (D:St) (id:Nat):Nat:=73+D.aG*3+id
def pack (state ay:Nat):Nat:=ay*8+state
def bA (w:Nat):Nat:=w % 8
def il (w:Nat):Nat:=w / 8
def aV (t id:Nat):Nat:=t*65536+id
def aj (w:Nat):Nat:=w / 65536
def aZ (w:Nat):Nat:=w % 65536
def St.word (D:St) (i:Nat):Nat:=D.words.getD i 0
def St.tick (D:St):St:={D with count:=D.count+1}
def St.put (D:St) (i v:Nat):St:={D with words:=D.words.set i v,count:=D.count+1}
def St.cB (D:St) (i old new:Nat):St:=if D.word i=old then D.put i new else D.tick
def St.t (D:St) (s:Nat):bL:=((D.ai.getD s none).getD default)
def St.c (D:St) (s:Nat):dY:=((D.calls.getD s none).getD default)
def St.bM (D:St) (s:Nat) (t:bL):St:={D with ai:=D.ai.set s (some t)}
def St.aM (D:St) (s:Nat) (c:dY):St:={D with calls:=D.calls.set s (some c)}
def St.event (D:St) (e:Ev):St:={D with aQ:=D.aQ++[e]}
def St.dw (D:St) (w:Nat):St:=D.cB (D.place (aZ w)) (pack 1 0) (pack 2 (aj w))
def St.bind (D:St) (s tq:Nat):St:=
 if tq∈(D.t s).aR then D
 else (D.bM s {D.t s with aR:=(D.t s).aR++[tq]}).event {kind:=4,t:=(D.t s).id,n:=tq}
def St.read (D:St) (s F G:Nat) (got:Bool):St:=D.bM s {D.t s with reads:=(D.t s).reads++[(F,G,got)]}
def bL.cell (t:bL) (F:Nat):Option lg:=t.cells.lookup F
def St.valueOf (D:St) (G:Nat):Nat:=(D.values.getD (ag G) (0,0)).2
def St.tell (D:St) (s F n:Nat):St:=D.aM s {D.c s with r:={(D.c s).r with aL:=(D.c s).r.aL++[(F,n)]}}
def iH (s:Nat):Nat->St->Nat->St×K
 |0,D,F=>(D,.fin (D.c s).r)
 |n+1,D,F=>
  if (D.c s).op.hi<F then (D,.fin (D.c s).r) else
  match (D.t s).cell F with
  |some x=>iH s n (if x.there then D.tell s F (D.valueOf x.own) else D) (F+1)
  |none=>(D,.start ⟨F,(D.t s).aJ,.scan F⟩)
def St.scan (D:St) (s F:Nat):St×K:=iH s ((D.c s).op.hi+1 - F) D F
def bL.needs (t:bL) (r:Nat×Nat×Bool):Bool:=(t.cell r.1).isNone&&(t.ax==3||(t.ax==2&&r.2.2))
def bL.need (t:bL):Nat->Nat->Nat
 |0,i=>i
 |n+1,i=>if i<t.reads.length∧t.needs (t.reads.getD i (0,0,false))=false then t.need n (i+1) else i
def jT (t:bL) (i:Nat):K:=if i=t.aR.length then .cZ else .wait i
def dH (t:bL) (i:Nat):K:=
 let i:=t.need (t.reads.length - i) i
 if i=t.reads.length then jT t 0 else .start ⟨(t.reads.getD i (0,0,false)).1,t.ay,.judge i (t.reads.getD i (0,0,false)).2.1⟩
/- The pool. -/
def St.list (D:St):St:=if D.listed then D else {D with listed:=true,free:=D.free++(List.range D.aG).reverse}
def rf (i tag:Nat):Nat:=tag*131072+(i+1)
def St.jR (D:St) (i:Nat):Nat:=rf i (D.tags.getD i (0,false)).1
def St.take (D:St):St×Option Nat:=
 let D:=D.list
 match D.free.getLast? with
 |none=>(D,none)
 |some i=>({D with free:=D.free.dropLast,tags:=D.tags.set i ((D.tags.getD i (0,false)).1,true)},some (D.jR i))
def St.kJ (D:St) (G:Nat):Bool:=1<=G % 131072&&G % 131072<=D.aG&&(D.tags.getD (ag G) (0,false)).2&&D.jR (ag G)==G
def St.give (D:St) (G:Nat):St:=
 if D.kJ G then
  let i:=ag G
  let tag:=(D.tags.getD i (0,false)).1
  if tag=65535 then {D with tags:=D.tags.set i (tag,false),jh:=D.jh+1}
  else {D with tags:=D.tags.set i (tag+1,false),free:=D.free++[i]}
 else D
def St.slot (D:St) (s:Nat) (x:Bool) (G head:Nat):St×K:=
 match (if G=0 then D.take else (D,some G)) with
 |(D,none)=>(D,.abort 14 5)
 |(D,some G)=>({D with values:=D.values.set (ag G) ((D.c s).op.F,(D.c s).op.value)},.fJ x G head)
def St.jk (D:St) (s G head at_:Nat):St×K:=if at_=0 then D.slot s false G head else (D,.free G head at_)
def St.lost (D:St) (G:Nat):St×K:=(if G≠0 then D.give G else D,.abort 14 2)
def mine (t:bL):Nat:=nW+t.id
def St.bS (D:St) (s F:Nat) (x:lg):St:=D.bM s {D.t s with cells:=(F,x)::(D.t s).cells,keys:=(D.t s).keys++[F]}
def upd (l:List (Nat×lg)) (F:Nat) (x:lg):List (Nat×lg):=l.map fun p=>if p.1=F then (F,x) else p
def St.gI (D:St) (s F:Nat) (x:lg):St:=D.bM s {D.t s with cells:=upd (D.t s).cells F x}
def St.x (D:St) (s F:Nat):lg:=((D.t s).cell F).getD default
def St.thn (D:St) (s:Nat) (h:dR) (G:Nat):St×K:=
 match h.thn with
 |.get=>
  let D:=D.read s h.F G (G !=0)
  if G=0 then (D,.fin {e:=11}) else (D,.fin {value:=D.valueOf G})
 |.scan F=>
  let D:=D.read s F G false
  (if G=0 then D else D.tell s F (D.valueOf G)).scan s (F+1)
 |.change=>
  let o:=(D.c s).op
  if G≠0∧o.kind=2 then (D.read s o.F G false,.fin {e:=12})
  else if G=0∧o.kind≠2 then (D.read s o.F G false,.fin {e:=11})
  else if G=0 then (D,.fresh 0)
  else (D,.own G)
 |.judge i l=>
  if G≠l then (D,.abort 14 3) else (D,dH (D.t s) (i+1))
def St.visit (D:St) (s:Nat) (h:dR) (G:Nat):St×K:=if G=0 then D.thn s h 0 else (D,.visit h G)
def St.seen (D:St) (s:Nat) (h:dR) (G lu:Nat):St×K:=if lu=0 then D.thn s h G else (D,.seen h G lu)
def St.kK (D:St) (s:Nat) (h:dR) (G w:Nat):K:=
 if (rd w).1=1∧(rd w).2<=h.at_ then .ended h G 0
 else if (rd w).1≠2∨(rd w).2=(D.t s).id then .older h G
 else .maker h G (rd w).2
def St.dI (D:St) (s:Nat) (e:Ev):St:=if (D.t s).over then D else (D.bM s {D.t s with over:=true}).event e
def St.finish (D:St) (s:Nat) (r:mo):St:=D.aM s {D.c s with r:=r,over:=true}
def fG (D:St) (t:bL):List yJ:=
 t.keys.flatMap fun F=>
  let x:=(t.cell F).getD default
  (if x.own≠0 then ⟨af x.own 0,0,t.ay⟩::(if x.there then [] else [⟨af x.own 1,0,t.ay⟩]) else [])
  ++(if x.old≠0 then [⟨af x.old 1,0,t.ay⟩] else [])
def gD (D:St) (t:bL):List yJ:=
 t.keys.flatMap fun F=>
  let x:=(t.cell F).getD default
  if x.old≠0 then [⟨af x.old 1,mine t,ever⟩] else []
def St.run (D:St) (s:Nat):K->St×Option K
 |.fin r=>(D.finish s r,none)
 |.start h=>let w:=D.word (9+h.F);let (D,k):=D.tick.visit s h w;(D,some k)
 |.visit h G=>(D.tick,some (D.kK s h G (D.word (af G 0))))
 |.maker h G id=>
  let w:=D.word (D.place id);let D:=D.tick
  if il w=0∨h.at_<il w∨bA w=4 then (D,some (.older h G))
  else if bA w=2 then (D,some (.ended h G id))
  else (D,some (.ended h G 0))
 |.older h G=>let w:=D.word (af G 2);let (D,k):=D.tick.visit s h w;(D,some k)
 |.ended h G lu=>
  let w:=D.word (af G 1);let D:=D.tick
  let r:=rd w
  if r.1=1∧r.2<=h.at_ then (D,some (.older h G))
  else if r.1≠2∨r.2=(D.t s).id then let (D,k):=D.seen s h G lu;(D,some k)
  else (D,some (.ik h G lu r.2))
 |.ik h G lu id=>
  let w:=D.word (D.place id);let D:=D.tick
  if il w=0∨h.at_<il w∨bA w=4 then let (D,k):=D.seen s h G lu;(D,some k)
  else if bA w=2 then (D.bind s id,some (.older h G))
  else (D,some (.older h G))
 |.seen h G lu=>
  let w:=D.word (D.place lu);let D:=D.tick
  if bA w=4 then (D,some (.start h))
  else let (D,k):=(if bA w=2 then D.bind s lu else D).thn s h G;(D,some k)
 |.again ay=>
  let F:=(D.c s).op.F
  let x:=D.x s F
  let D:=D.put (af x.own 1) ay
  let there:=(D.c s).op.kind !=4
  let D:=D.gI s F {x with there:=there}
  let D:=if there then {D with values:=D.values.set (ag x.own) ((D.values.getD (ag x.own) (0,0)).1,(D.c s).op.value)} else D
  (D,some (.fin {}))
 |.own G=>
  let w:=D.word (af G 1);let D:=D.tick
  let r:=rd w
  if r.1=3 then (D,some (.claim G w))
  else if r.1=2 then (D,some (.iw G w r.2))
  else (D,some (.abort 14 2))
 |.iw G w id=>
  let v:=D.word (D.place id);let D:=D.tick
  if bA v≠4 then (D,some (.abort 14 2)) else (D,some (.claim G w))
 |.claim G w=>
  let v:=D.word (af G 1)
  let D:=D.cB (af G 1) w (mine (D.t s))
  if v≠w then (D,some (.own G))
  else
   let D:=D.bS s (D.c s).op.F ⟨0,G,false⟩
   if (D.c s).op.kind=4 then (D,some (.fin {}))
   else let (D,k):=D.slot s true 0 0;(D,some k)
 |.fresh G=>
  let head:=D.word (9+(D.c s).op.F)
  let (D,k):=D.tick.jk s G head head;(D,some k)
 |.next G head at_=>
  let w:=D.word (af at_ 2)
  let (D,k):=D.tick.jk s G head w;(D,some k)
 |.free G head at_=>
  let w:=D.word (af at_ 0);let D:=D.tick
  let r:=rd w
  if r.1=1∧r.2<=(D.t s).aJ then (D,some (.next G head at_))
  else if r.1≠2 then let (D,k):=D.lost G;(D,some k)
  else (D,some (.dX G head at_ r.2))
 |.dX G head at_ id=>
  let w:=D.word (D.place id);let D:=D.tick
  if bA w=4∨(0<il w∧il w<=(D.t s).aJ) then (D,some (.next G head at_))
  else let (D,k):=D.lost G;(D,some k)
 |.fJ x G head=>(D.put (af G 0) (mine (D.t s)),some (.eU x G head))
 |.eU x G head=>
  let D:=D.put (af G 1) ever
  (D,some (if x then .over G else .push G head))
 |.push G head=>(D.put (af G 2) head,some (.dV G head))
 |.dV G head=>
  let F:=(D.c s).op.F
  let v:=D.word (9+F)
  let D:=D.cB (9+F) head G
  if v≠head then (D,some (.fresh G))
  else (D.bS s F ⟨G,0,true⟩,some (.fin {}))
 |.over G=>let head:=D.word (9+(D.c s).op.F);(D.tick,some (.iB G head))
 |.iB G head=>(D.put (af G 2) head,some (.eu G head))
 |.eu G head=>
  let F:=(D.c s).op.F
  let v:=D.word (9+F)
  let D:=D.cB (9+F) head G
  if v≠head then (D,some (.over G))
  else (D.gI s F {D.x s F with own:=G,there:=true},some (.fin {}))
 |.draw=>
  let w:=D.word 0;let D:=D.tick
  if D.limit<=aj w then (D,some (.abort 14 6))
  else if aZ w=0 then (D,some (.turn w (aj w)))
  else (D,some (.eX w (aj w)))
 |.eX w now=>(D.dw w,some (.turn w now))
 |.turn w now=>
  let v:=D.word 0
  let D:=D.cB 0 w (aV (now+1) (D.t s).id)
  if v≠w then (D,some .draw)
  else
   let D:=(D.bM s {D.t s with ay:=now+1}).event {kind:=3,t:=(D.t s).id,n:=now+1}
   (D,some .eB)
 |.eB=>
  let D:=D.dw (aV (D.t s).ay (D.t s).id)
  (D,some (dH (D.t s) 0))
 |.wait i=>
  let v:=D.word (D.place ((D.t s).aR.getD i 0));let D:=D.tick
  if bA v=3 then (D,some (jT (D.t s) (i+1)))
  else if bA v=4 then (D,some (.abort 14 4))
  else (D.aM s {D.c s with waits:=true},some (.wait i))
 |.cZ=>
  let t:=D.t s
  let D:=(D.put (D.place t.id) (pack 3 t.ay)).dI s {kind:=5,t:=t.id}
  (D,some (.turns (fG D t) {over:=3}))
 |.abort e aI=>
  let t:=D.t s
  let D:=(D.put (D.place t.id) (pack 4 t.ay)).dI s {kind:=6,t:=t.id,res:={aI:=aI}}
  (D,some (.turns (gD D t) {e:=e,over:=4,aI:=aI}))
 |.turns [] r=>((D.put (1+s) 0).finish s r,none)
 |.turns (x::l) r=>(if x.old=0 then D.put x.at_ x.new else D.cB x.at_ x.old x.new,some (.turns l r))
def nX (o:Op):Bool:=
 match o.kind with
 |1=>o.F<=63&&o.hi==0&&o.value==0
 |4=>o.F<=63&&o.hi==0&&o.value==0
 |2=>o.F<=63&&o.hi==0&&o.value<=65535
 |3=>o.F<=63&&o.hi==0&&o.value<=65535
 |5=>o.F<=63&&o.F<=o.hi&&o.hi<=63&&o.value==0
 |6=>o.F==0&&o.hi==0&&o.value==0
 |7=>o.F==0&&o.hi==0&&o.value==0
 |_=>false
def gU (o:Op):Bool:=o.kind==6||o.kind==7
def new (aG limit:Nat):St:=
 {aG:=aG,limit:=limit,words:=List.replicate (73+aG*3+2000+1) 0,count:=0,tags:=List.replicate aG (0,false),free:=[],jh:=0,listed:=false,values:=List.replicate aG (0,0),ai:=List.replicate 8 none,calls:=List.replicate 8 none,aB:=0,seq:=0,aA:=0,aQ:=[],sw:=none,low:=0,cut:=[],cuts:=0}
def St.first (D:St) (s:Nat):St×K:=
 let o:=(D.c s).op
 let t:=D.t s
 match o.kind with
 |1=>
  match t.cell o.F with
  |some x=>(D,if x.there then .fin {value:=D.valueOf x.own} else .fin {e:=11})
  |none=>(D,.start ⟨o.F,t.aJ,.get⟩)
 |5=>D.scan s o.F
 |6=>(D,.draw)
 |7=>(D,.abort 0 1)
 |_=>
  match t.cell o.F with
  |some x=>
   if x.there∧o.kind=2 then (D,.fin {e:=12})
   else if x.there=false∧o.kind≠2 then (D,.fin {e:=11})
   else if x.own=0 then D.slot s true 0 0
   else (D,.again (if o.kind=4 then mine t else ever))
  |none=>(D,.start ⟨o.F,t.aJ,.change⟩)
/- Sweeping. -/
def mG (F:Nat):Option S:=if 63<F then none else some (.head F)
def nE (s:Nat):Option S:=if s=8 then mG 0 else some (.live s)
def iK (F ak G:Nat):Option S:=if G=0 then mG (F+1) else some (.visit F ak G)
def dC (ay low:Nat):Bool:=(rd ay).1==1&&1<=(rd ay).2&&(rd ay).2<=low
def St.aH (D:St):S->St×Bool
 |.now=>({D.tick with low:=aj (D.word 0),sw:=nE 0},false)
 |.live s=>
  let w:=D.word (1+s)
  ({D.tick with low:=if 0<w then min D.low w else D.low,sw:=nE (s+1)},false)
 |.head F=>({D.tick with sw:=iK F 0 (D.word (9+F))},false)
 |.visit F ak G=>
  let b:=D.word (af G 0)
  ({D.tick with sw:=some (if (rd b).1=2 then .maker F ak G (rd b).2 else .dC F ak G b)},false)
 |.maker F ak G id=>
  ({D.tick with sw:=some (if bA (D.word (D.place id))=4 then .unlink F ak G else .on F G)},false)
 |.dC F ak G b=>
  ({D.tick with sw:=some (if dC (D.word (af G 1)) D.low then .unlink F ak G else .on F G)},false)
 |.on F G=>({D.tick with sw:=iK F G (D.word (af G 2))},false)
 |.unlink F ak G=>({D.tick with sw:=some (.cut F ak G (D.word (af G 2)))},true)
 |.cut F ak G next=>
  if ak≠0 then ({D.put (af ak 2) next with cut:=D.cut++[(G,D.seq)],cuts:=D.cuts+1,sw:=iK F ak next},true)
  else if D.word (9+F)=G then ({D.put (9+F) next with cut:=D.cut++[(G,D.seq)],cuts:=D.cuts+1,sw:=iK F ak next},true)
  else ({D.tick with sw:=mG F},true)
def St.bX (D:St):St×Bool:=
 match D.cut with
 |(G,seq)::rest=>
  if D.calls.all (fun c=>match c with|some c=>seq<c.seq|none=>true) then ({D.give G with cut:=rest},true)
  else go D
 |[]=>go D
where go (D:St):St×Bool:=
 let before:=D.count
 let (D,b):=D.aH (D.sw.getD .now)
 ({D with aA:=D.aA+(D.count - before)},b)
/- What is told. -/
structure Status where
 live:Bool:=false
 busy:Bool:=false
 waits:Bool:=false
 id:Nat:=0
 ax:Nat:=0
 state:Nat:=0
 aJ:Nat:=0
 ay:Nat:=0
 ops:Nat:=0
 deriving Repr,DecidableEq,Inhabited
def St.status (D:St) (s:Nat):Status:=
 match D.ai.getD s none with
 |none=>{}
 |some t=>
  let c:=D.calls.getD s none
  {live:=true,id:=t.id,ax:=t.ax,state:=if 0<t.ay then 2 else 1,aJ:=t.aJ,ay:=t.ay,ops:=t.ops,busy:=c.isSome,waits:=(c.map (·.waits)).getD false}
def St.now (D:St):Nat:=aj (D.word 0)
def St.live (D:St):List Nat:=(List.range 8).filter fun s=>(D.ai.getD s none).isSome
def St.done (D:St) (w:Nat):Bool:=(rd w).1==1||((rd w).1==2&&bA (D.word (D.place (rd w).2))==3)
def St.ku (D:St):Nat->Nat->Option Nat
 |0,_=>none
 |n+1,G=>if G=0 then none else if D.done (D.word (af G 0))&&!D.done (D.word (af G 1)) then some (D.valueOf G) else D.ku n (D.word (af G 2))
def St.aL (D:St):List (Nat×Nat):=(List.range 64).filterMap fun F=>(D.ku (D.aG+1) (D.word (9+F))).map fun v=>(F,v)
end Go.Proofs.YthicolbbmjfkfaaGreat.En
namespace Go.Proofs.YthicolbbmjfkfaaGreat.Em
open Go.ChangeShapes Go.WideShapes Go.ChangeAt Go.RowKit En
abbrev u64 (n:Nat):Value:=zu n
abbrev i64 (n:Nat):Value:=I n
abbrev ptr (b:Nat):Value:=R b 0
structure az where
 L:eH
 V:Nat
 ba:Nat
 bw:Nat
 bp:Nat
 bs:Nat
 bv:Nat
 bt:Nat->Nat
 bm:Nat->Nat
 bc:Nat->Nat
 bx:Nat->Nat->Nat
 fH:Value
 jP:Value
 jc:Value
 hcut:Bool
 gu:Nat
 eP:Value
 fu:Nat->Value
 fO:Nat->Value
 eQ:Nat->Value
 aX:Nat->Value
 bE:Nat->Value
 bH:Nat->Value
 gV:List Value
 eG:List Value
 mp:Int
 mt:Nat->Int
 lX:Nat->Bool
def az.tp (A:az) (D:St) (s:Nat):Value:=match D.ai.getD s none with|some _=>ptr (A.bt s)|none=>.pointer none
def az.sv (A:az) (x:Option S):Value:=bif x.isNone then .nilFunc else A.eP
def az.MW (A:az):Value×Bool×Nat×List Value:=(A.jc,A.hcut,A.gu,A.eG)
def az.Ux (A:az):Value×Value×Bool×Nat×List Value:=(A.eP,A.MW)
def oz (A:az) (D:St):List Value:=
 [i64 D.aG, u64 D.limit, ptr A.ba, ptr A.bp, .slice (some (J A.bv 0)) D.aG D.aG,
  A.tp D 0,A.tp D 1,A.tp D 2,A.tp D 3,A.tp D 4,A.tp D 5,A.tp D 6,A.tp D 7,
  A.bH 0,A.bH 1,A.bH 2,A.bH 3,A.bH 4,A.bH 5,A.bH 6,A.bH 7,
  i64 D.aB,i64 D.seq,i64 D.aA,A.jP,A.sv D.sw,u64 D.low,A.jc,.bool false]
def oP (A:az) (D:St):List Value:=[.slice (some (J A.bw 0)) D.words.length D.words.length,i64 D.count]
def ji (b:Bool) (m:Int):List Value:=[.int .u32 (if b then 1 else 0),.int .i32 m,.int .u32 0]
def mq (A:az) (D:St):List Value:=[.slice (some (J A.bs 0)) D.aG D.aG,i64 65535,A.fH,i64 D.jh]++ji D.listed A.mp
def two (l:List (Value×Value)):List Value:=l.flatMap fun p=>[p.1,p.2]
def yK (D:St):List Value:=two (D.tags.map fun p=>(i64 p.1,.bool p.2))
def oQ (D:St):List Value:=two (D.values.map fun p=>(i64 p.1,i64 p.2))
def fw (A:az) (s:Nat) (t:bL):List Value:=
 [i64 t.id,i64 t.ax,i64 s,u64 t.aJ,u64 t.ay,i64 t.ops,A.fu s,.map (some (A.bm s)),A.fO s,A.eQ s]++ji t.over (A.mt s)++[.bool (A.lX s)]
def fP (A:az) (s:Nat) (c:dY):List Value:=
 [i64 c.op.kind,i64 c.op.F,i64 c.op.hi,i64 c.op.value,A.bE s,i64 c.r.e,i64 c.r.value,A.aX s,i64 c.r.over,i64 c.r.aI,.bool c.waits,.bool c.over,i64 c.seq]
def rU (x:lg):List Value:=[u64 x.own,u64 x.old,.bool x.there]
def iq (A:az) (s:Nat) (t:bL):List MapEntry:=t.cells.reverse.zipIdx.map fun p=>⟨i64 p.1.1,ptr (A.bx s p.1.1),p.2⟩
def kC (l:List (Nat×Nat×Bool)):List Value:=l.flatMap fun r=>[i64 r.1,u64 r.2.1,.bool r.2.2]
def bQ (l:List (Nat×Nat)):List Value:=two (l.map fun p=>(i64 p.1,i64 p.2))
def bB (A:az) (D:St):bW->Entry
 |.bT=>.obj A.V (oz A D) 111
 |.arena=>.obj A.ba (oP A D) 184
 |.words=>.obj A.bw (D.words.map u64) 186
 |.bP=>.obj A.bp (mq A D) 208
 |.tags=>.obj A.bs (yK D) 243
 |.free=>.own A.fH 3 1 D.free.length (D.free.map i64)
 |.values=>.obj A.bv (oQ D) 190
 |.aQ=>.own A.jP 62 12 D.aQ.length A.gV
 |.cut=>bif A.hcut then .obj A.gu A.eG 203 else .none
 |.tmp=>.none
 |.fI s=>match D.ai.getD s none with|some t=>.obj (A.bt s) (fw A s t) 131|none=>.none
 |.map s=>match D.ai.getD s none with|some t=>.map (A.bm s) (iq A s t) t.cells.length|none=>.none
 |.cell s F=>match (D.ai.getD s none).bind (·.cell F) with|some x=>.obj (A.bx s F) (rU x) 225|none=>.none
 |.keys s=>match D.ai.getD s none with|some t=>.own (A.fu s) 3 1 t.keys.length (t.keys.map i64)|none=>.none
 |.reads s=>match D.ai.getD s none with|some t=>.own (A.fO s) 250 3 t.reads.length (kC t.reads)|none=>.none
 |.aR s=>match D.ai.getD s none with|some t=>.own (A.eQ s) 3 1 t.aR.length (t.aR.map i64)|none=>.none
 |.call s=>match D.calls.getD s none with|some c=>.obj (A.bc s) (fP A s c) 141|none=>.none
 |.aL s=>match D.calls.getD s none with|some c=>.own (A.aX s) 152 2 c.r.aL.length (bQ c.r.aL)|none=>.none
end Go.Proofs.YthicolbbmjfkfaaGreat.Em
namespace Go.Proofs.YthicolbbmjfkfaaGreat.Em
open Go.ChangeShapes Go.WideShapes Go.ChangeAt Go.RowKit En
def pU (e:Ev) (vp:Value):List Value:=
 [i64 e.kind,i64 e.t,u64 e.n,i64 e.op.kind,i64 e.op.F,i64 e.op.hi,i64 e.op.value,i64 e.res.e,i64 e.res.value,vp,i64 e.res.over,i64 e.res.aI]
def lC (L:eH) (w:World) (v:Value) (xs:List Value):Prop:=iJ L w 2 v xs∧∀ g off n cap,v=.slice (some (J g off)) n cap->n=0∨∃ cs,w.heap[g]? =some (.cells cs 152)
theorem lC.nil (L:eH) (w:World):lC L w (.slice none 0 0) []:=⟨iJ.nil L w 2,fun g off n cap h=>by simp at h⟩
theorem lC.grow {L L':eH} {w E:World} {v:Value} {xs:List Value} (h:lC L w v xs) (g:Grow L w L' E):lC L' E v xs:=by
 refine⟨h.1.grow g,fun b off n cap hv=>?_⟩
 rcases h.2 b off n cap hv with h0|⟨cs,hc⟩
 . exact .inl h0
 . by_cases hn:n=0
   . exact .inl hn
   . obtain⟨a,n',cap',e1,e2,e3,e4,e5⟩:=h.1
     obtain⟨rfl,rfl,rfl⟩:a=za b off∧n'=n∧cap'=cap:=by rw[hv] at e1;simp at e1;exact⟨e1.1.symm,e1.2.1.symm,e1.2.2.symm⟩
     obtain⟨b',off',e6,e7,e8,_⟩:=e5.resolve_left hn;obtain⟨rfl,rfl⟩:b=b'∧off=off':=by simpa using e6
     exact .inr ⟨cs,(g.block b e8 e7).trans hc⟩
def qU (L:eH) (w:World):List Ev->List Value->Prop
 |[],xs=>xs=[]
 |e::l,xs=>∃ vp ys,xs=pU e vp++ys∧lC L w vp (bQ e.res.aL)∧qU L w l ys
theorem qU.grow {L L':eH} {w E:World} (g:Grow L w L' E):∀ {l:List Ev} {xs:List Value},qU L w l xs->qU L' E l xs
 |[],_,h=>h
 |_::_,_,⟨vp,ys,h1,h2,h3⟩=>⟨vp,ys,h1,h2.grow g,qU.grow g h3⟩
theorem qU.snoc {L:eH} {w:World} {e:Ev} {vp:Value} (hp:lC L w vp (bQ e.res.aL)):∀ {l:List Ev} {xs:List Value},qU L w l xs->qU L w (l++[e]) (xs++pU e vp)
 |[],xs,h=>by
  have h0:xs=[]:=h;subst h0;exact⟨vp,[],by simp,hp,rfl⟩
 |_::_,_,⟨v,ys,h1,h2,h3⟩=>⟨v,ys++pU e vp,by rw[h1,List.append_assoc],h2,qU.snoc hp h3⟩
structure aF (A:az) (D:St) (w:World):Prop where
 mem:Holds A.L w (bB A D)
 ev:qU A.L w D.aQ A.gV
 sl:1<=D.aG∧D.aG<=256
 nw:D.words.length=73+D.aG*3+2001
 nt:D.tags.length=D.aG
 nv:D.values.length=D.aG
 n8:D.ai.length=8
 nc:D.calls.length=8
theorem aF.below {A:az} {D:St} {w E:World} (h:aF A D w) (Z:Below w.heap.size w E):aF A D E:=⟨h.mem.below Z,h.ev.grow (Grow.below Z),h.sl,h.nw,h.nt,h.nv,h.n8,h.nc⟩
theorem aF.alloc {A:az} {D:St} {w:World} (h:aF A D w) (o:Obj):aF A D (w.alloc o):=h.below ((Below.refl _ _).alloc (zr _) o)
theorem aF.drew {A:az} {D:St} {w:World} (h:aF A D w):aF A D w.drew:=h.below (Below.refl _ _).drew
theorem aF.drewN {A:az} {D:St} {w:World} (h:aF A D w) (n:Nat):aF A D (w.drewN n):=h.below ⟨rfl,rfl,rfl,zr _,fun _ _=>rfl⟩
theorem aF.bT {A:az} {D:St} {w:World} (h:aF A D w) (i:Nat) {v:Value} (hv:(oz A D)[i]? =some v):w.cell? (J A.V i)=some v:=h.mem.cell (r:=.bT) rfl i hv
theorem aF.z2 {A:az} {D:St} {w:World} (h:aF A D w):w.cell? (J A.V 2)=zs A.ba 0:=h.bT 2 rfl
theorem aF.iE {A:az} {D:St} {w:World} (h:aF A D w) (i:Nat):w.frozen? (J A.V i)=false:=h.mem.frozen (r:=.bT) rfl i
theorem aF.arena {A:az} {D:St} {w:World} (h:aF A D w) (i:Nat) {v:Value} (hv:(oP A D)[i]? =some v):w.cell? (J A.ba i)=some v:=h.mem.cell (r:=.arena) rfl i hv
theorem aF.P7 {A:az} {D:St} {w:World} (h:aF A D w) (i:Nat):w.frozen? (J A.ba i)=false:=h.mem.frozen (r:=.arena) rfl i
theorem aF.word {A:az} {D:St} {w:World} (h:aF A D w) {i:Nat} (hi:i<D.words.length):w.cell? (J A.bw i)=zv (D.word i:Int):=by
 refine h.mem.cell (r:=.words) rfl i ?_;rw[List.getElem?_map,ym hi];simp[St.word,List.getD,hi]
theorem aF.Py {A:az} {D:St} {w:World} (h:aF A D w) (i:Nat):w.frozen? (J A.bw i)=false:=h.mem.frozen (r:=.words) rfl i
theorem cK {D:St} {s:Nat} {t:bL} (ht:D.ai.getD s none=some t):D.t s=t:=by unfold St.t;rw[ht];rfl
theorem bC {D:St} {s:Nat} {c:dY} (hc:D.calls.getD s none=some c):D.c s=c:=by unfold St.c;rw[hc];rfl
theorem jF {A:az} {D:St} {s:Nat} {t:bL} (ht:D.ai.getD s none=some t):bB A D (.fI s)=.obj (A.bt s) (fw A s t) 131:=by simp only[bB,ht]
theorem lY {A:az} {D:St} {s:Nat} {c:dY} (hc:D.calls.getD s none=some c):bB A D (.call s)=.obj (A.bc s) (fP A s c) 141:=by simp only[bB,hc]
theorem aF.fI {A:az} {D:St} {w:World} (h:aF A D w) {s:Nat} {t:bL} (ht:D.ai.getD s none=some t) (i:Nat) {v:Value} (hv:(fw A s t)[i]? =some v):w.cell? (J (A.bt s) i)=some v:=h.mem.cell (jF ht) i hv
theorem aF.vP {A:az} {D:St} {w:World} (h:aF A D w) {s:Nat} {t:bL} (ht:D.ai.getD s none=some t) (i:Nat):w.frozen? (J (A.bt s) i)=false:=h.mem.frozen (jF ht) i
theorem aF.call {A:az} {D:St} {w:World} (h:aF A D w) {s:Nat} {c:dY} (hc:D.calls.getD s none=some c) (i:Nat) {v:Value} (hv:(fP A s c)[i]? =some v):w.cell? (J (A.bc s) i)=some v:=h.mem.cell (lY hc) i hv
theorem aF.pX {A:az} {D:St} {w:World} (h:aF A D w) {s:Nat} {c:dY} (hc:D.calls.getD s none=some c) (i:Nat):w.frozen? (J (A.bc s) i)=false:=h.mem.frozen (lY hc) i
/- Writing. -/
theorem aF.tick {A:az} {D:St} {w:World} (h:aF A D w):aF A D.tick (w.setCell (J A.ba 1) (I ((D.count:Int)+1)))∧Grow A.L w A.L (w.setCell (J A.ba 1) (I ((D.count:Int)+1))):=by
 have g:=h.mem.df (r:=.arena) rfl 1 (I ((D.count:Int)+1));exact⟨⟨h.mem.set .arena rfl 1 _ (by simp[bB,oP,St.tick]) (fun q hq=>by cases q<;>first|rfl|exact absurd rfl hq),h.ev.grow g,h.sl,h.nw,h.nt,h.nv,h.n8,h.nc⟩,g⟩
theorem aF.store {A:az} {D:St} {w:World} (h:aF A D w) (i n:Nat):aF A {D with words:=D.words.set i n} (w.setCell (J A.bw i) (zu n))∧Grow A.L w A.L (w.setCell (J A.bw i) (zu n)):=by
 have g:=h.mem.df (r:=.words) rfl i (zu n);exact⟨⟨h.mem.set .words rfl i _ (by simp[bB,List.map_set]) (fun q hq=>by cases q<;>first|rfl|exact absurd rfl hq|(simp[bB,oP])),h.ev.grow g,h.sl,by simpa using h.nw,h.nt,h.nv,h.n8,h.nc⟩,g⟩
theorem aF.put {A:az} {D:St} {w:World} (h:aF A D w) (i n:Nat):aF A (D.put i n) ((w.setCell (J A.ba 1) (I ((D.count:Int)+1))).setCell (J A.bw i) (zu n))∧Grow A.L w A.L ((w.setCell (J A.ba 1) (I ((D.count:Int)+1))).setCell (J A.bw i) (zu n)):=by
 obtain⟨h1,g1⟩:=h.tick;obtain⟨h2,g2⟩:=h1.store i n;exact⟨h2,g1.trans g2⟩
end Go.Proofs.YthicolbbmjfkfaaGreat.Em
namespace Go.Proofs.YthicolbbmjfkfaaGreat.Em
open Go.ChangeShapes Go.WideShapes Go.ChangeAt Go.RowKit En
theorem kL {α:Type} (l:List α) (s q:Nat) (x d:α) (hs:s<l.length):(l.set s x).getD q d=if q=s then x else l.getD q d:=by
 simp only[mM,List.getElem?_set]
 by_cases h:s=q
 . subst h;simp[hs]
 . simp[h,Ne.symm h]
theorem dB {D:St} {s:Nat} (hs:s<D.ai.length) (t:bL) (q:Nat):(D.bM s t).ai.getD q none=if q=s then some t else D.ai.getD q none:=kL _ _ _ _ _ hs
theorem di {D:St} {s:Nat} (hs:s<D.calls.length) (c:dY) (q:Nat):(D.aM s c).calls.getD q none=if q=s then some c else D.calls.getD q none:=kL _ _ _ _ _ hs
theorem dA {D:St} {s:Nat} {t:bL} (ht:D.ai.getD s none=some t):s<D.ai.length:=by
 rcases Nat.lt_or_ge s D.ai.length with h|h
 . exact h
 . simp[mM,q9 h] at ht
theorem bR {D:St} {s:Nat} {c:dY} (hc:D.calls.getD s none=some c):s<D.calls.length:=by
 rcases Nat.lt_or_ge s D.calls.length with h|h
 . exact h
 . simp[mM,q9 h] at hc
theorem MX (A:az) {D:St} {s:Nat} {t:bL} (ht:D.ai.getD s none=some t) (t':bL) (q:Nat):A.tp (D.bM s t') q=A.tp D q:=by
 unfold az.tp;rw[dB (dA ht)]
 by_cases h:q=s
 . subst h;rw[aW rfl,ht]
 . rw[bu h]
def gZ (A:az) (s:Nat) (t:Option bL):bW->Entry
 |.fI _=>match t with|some t=>.obj (A.bt s) (fw A s t) 131|none=>.none
 |.map _=>match t with|some t=>.map (A.bm s) (iq A s t) t.cells.length|none=>.none
 |.cell _ F=>match t.bind (·.cell F) with|some x=>.obj (A.bx s F) (rU x) 225|none=>.none
 |.keys _=>match t with|some t=>.own (A.fu s) 3 1 t.keys.length (t.keys.map i64)|none=>.none
 |.reads _=>match t with|some t=>.own (A.fO s) 250 3 t.reads.length (kC t.reads)|none=>.none
 |.aR _=>match t with|some t=>.own (A.eQ s) 3 1 t.aR.length (t.aR.map i64)|none=>.none
 |_=>.none
def bW.tx:bW->Option Nat
 |.fI s|.map s|.cell s _|.keys s|.reads s|.aR s=>some s
 |_=>none
theorem iL (A:az) (D:St) {q:bW} {s:Nat} (h:q.tx=some s):bB A D q=gZ A s (D.ai.getD s none) q:=by
 cases q<;>simp[bW.tx] at h<;>subst h<;>rfl
theorem jG (A:az) {D:St} {s:Nat} {t:bL} (ht:D.ai.getD s none=some t) (t':bL) {q:bW} (h:q.tx≠some s):bB A (D.bM s t') q=bB A D q:=by
 cases hq:q.tx with
 |none=>
  cases q<;>first|rfl|(simp[bW.tx] at hq;done)|skip
  simp only[bB];simp only[oz,MX A ht];rfl
 |some k=>
  have Y:k≠s:=by rintro rfl;exact h hq
  rw[iL A _ hq,iL A _ hq,dB (dA ht),bu Y]
theorem aF.ED {A:az} {D:St} {w:World} (h:aF A D w) {s:Nat} {t:bL} (ht:D.ai.getD s none=some t) (t':bL) (i:Nat) (v:Value) (hcs:fw A s t'=(fw A s t).set i v)
 (h1:t'.cells=t.cells) (h2:t'.keys=t.keys) (h3:t'.reads=t.reads) (h4:t'.aR=t.aR):aF A (D.bM s t') (w.setCell (J (A.bt s) i) v)∧Grow A.L w A.L (w.setCell (J (A.bt s) i) v):=by
 have g:=h.mem.df (jF ht) i v;refine⟨⟨h.mem.set (.fI s) (jF ht) i v ?_ ?_,h.ev.grow g,h.sl,h.nw,h.nt,h.nv,by simpa [St.bM] using h.n8,h.nc⟩,g⟩
 . rw[iL A _ (s:=s) rfl,dB (dA ht),aW rfl]
   simp only[gZ,hcs]
 . intro q hq
   by_cases hs:q.tx=some s
   . rw[iL A _ hs,iL A _ hs,dB (dA ht),aW rfl,ht]
     cases q<;>simp[bW.tx] at hs<;>subst hs<;>first|exact absurd rfl hq|(simp[gZ,iq,bL.cell,h1,h2,h3,h4];done)
   . exact jG A ht t' hs
/- A call's parts. -/
def nG (A:az) (s:Nat) (c:Option dY):bW->Entry
 |.call _=>match c with|some c=>.obj (A.bc s) (fP A s c) 141|none=>.none
 |.aL _=>match c with|some c=>.own (A.aX s) 152 2 c.r.aL.length (bQ c.r.aL)|none=>.none
 |_=>.none
def bW.cl:bW->Option Nat
 |.call s|.aL s=>some s
 |_=>none
theorem kD (A:az) (D:St) {q:bW} {s:Nat} (h:q.cl=some s):bB A D q=nG A s (D.calls.getD s none) q:=by
 cases q<;>simp[bW.cl] at h<;>subst h<;>rfl
theorem mH (A:az) {D:St} {s:Nat} {c:dY} (hc:D.calls.getD s none=some c) (c':dY) {q:bW} (h:q.cl≠some s):bB A (D.aM s c') q=bB A D q:=by
 cases hq:q.cl with
 |none=>
  cases q<;>first|rfl|(simp[bW.cl] at hq;done)
 |some k=>
  have Y:k≠s:=by rintro rfl;exact h hq
  rw[kD A _ hq,kD A _ hq,di (bR hc),bu Y]
theorem aF.rV {A:az} {D:St} {w:World} (h:aF A D w) {s:Nat} {c:dY} (hc:D.calls.getD s none=some c) (c':dY) (i:Nat) (v:Value) (hcs:fP A s c'=(fP A s c).set i v)
 (h1:c'.r.aL=c.r.aL):aF A (D.aM s c') (w.setCell (J (A.bc s) i) v)∧Grow A.L w A.L (w.setCell (J (A.bc s) i) v):=by
 have g:=h.mem.df (lY hc) i v;refine⟨⟨h.mem.set (.call s) (lY hc) i v ?_ ?_,h.ev.grow g,h.sl,h.nw,h.nt,h.nv,h.n8,by simpa [St.aM] using h.nc⟩,g⟩
 . rw[kD A _ (s:=s) rfl,di (bR hc),aW rfl]
   simp only[nG,hcs]
 . intro q hq
   by_cases hs:q.cl=some s
   . rw[kD A _ hs,kD A _ hs,di (bR hc),aW rfl,hc]
     cases q<;>simp[bW.cl] at hs<;>subst hs<;>first|exact absurd rfl hq|(simp[nG,h1];done)
   . exact mH A hc c' hs
end Go.Proofs.YthicolbbmjfkfaaGreat.Em
namespace Go.Proofs.YthicolbbmjfkfaaGreat.Em
open Go.ChangeShapes Go.WideShapes Go.ChangeAt Go.RowKit En
def lq (f:Nat->Value) (s:Nat) (v:Value):Nat->Value:=fun k=>if k=s then v else f k
theorem Holds.of_eq {L:eH} {w:World} {m m':bW->Entry} (h:Holds L w m) (e:∀ q,m' q=m q):Holds L w m':=⟨fun q=>by rw[e];exact h.all q,h.fresh⟩
theorem lZ (f:Nat->Value) (s:Nat) (v:Value):lq f s v s=v:=aW rfl
theorem bJ (f:Nat->Value) {s k:Nat} (v:Value) (h:k≠s):lq f s v k=f k:=bu h
structure az.Pz (A A':az) (s:Nat):Prop where
 V:A'.V=A.V
 ba:A'.ba=A.ba
 bw:A'.bw=A.bw
 bp:A'.bp=A.bp
 bs:A'.bs=A.bs
 bv:A'.bv=A.bv
 bt:A'.bt=A.bt
 bc:A'.bc=A.bc
 fH:A'.fH=A.fH
 jP:A'.jP=A.jP
 jc:A'.MW=A.MW
 eP:A'.eP=A.eP
 gV:A'.gV=A.gV
 bE:A'.bE=A.bE
 bH:A'.bH=A.bH
 aX:A'.aX=A.aX
 mp:A'.mp=A.mp
 bm:∀ k,k≠s->A'.bm k=A.bm k
 bx:∀ k,k≠s->A'.bx k=A.bx k
 fu:∀ k,k≠s->A'.fu k=A.fu k
 fO:∀ k,k≠s->A'.fO k=A.fO k
 eQ:∀ k,k≠s->A'.eQ k=A.eQ k
 mt:∀ k,k≠s->A'.mt k=A.mt k
 lX:∀ k,k≠s->A'.lX k=A.lX k
theorem mO {A A':az} {s:Nat} (h:A.Pz A' s) (D:St) {q:bW} (hq:q.tx≠some s):bB A' D q=bB A D q:=by
 have c1:A'.jc=A.jc:=congrArg (·.1) h.jc;have c2:A'.hcut=A.hcut:=congrArg (·.2.1) h.jc;have c3:A'.gu=A.gu:=congrArg (·.2.2.1) h.jc;have c4:A'.eG=A.eG:=congrArg (·.2.2.2) h.jc;have tp:∀ k,A'.tp D k=A.tp D k:=fun k=>by unfold az.tp;rw[h.bt]
 have tc:∀ k,k≠s->∀ t,fw A' k t=fw A k t:=fun k Y t=>by simp only[fw,h.bm k Y,h.fu k Y,h.fO k Y,h.eQ k Y,h.mt k Y,h.lX k Y]
 have me:∀ k,k≠s->∀ t,iq A' k t=iq A k t:=fun k Y t=>by simp only[iq,h.bx k Y]
 have cc:∀ k c,fP A' k c=fP A k c:=fun k c=>by simp only[fP,h.bE,h.aX]
 cases q<;>simp only[bW.tx,ne_eq,Option.some.injEq,not_false_eq_true] at hq<;>first
  |(simp only[bB,oz,az.sv,oP,mq,yK,oQ,tp,h.bH,h.V,h.ba,h.bw,h.bp,h.bs,h.bv,h.fH,h.jP,c1,c2,c3,c4,h.eP,h.gV,h.bc,h.aX,h.mp,cc];done)
  |(simp only[bB,h.bt,tc _ hq];done)
  |(simp only[bB,h.bm _ hq,me _ hq];done)
  |(simp only[bB,h.bx _ hq];done)
  |(simp only[bB,h.fu _ hq];done)
  |(simp only[bB,h.fO _ hq];done)
  |(simp only[bB,h.eQ _ hq];done)
theorem mem_keys {A:az} {D:St} {s:Nat} {t:bL} (ht:D.ai.getD s none=some t):bB A D (.keys s)=.own (A.fu s) 3 1 t.keys.length (t.keys.map i64):=by simp only[bB,ht]
def az.vH (A:az) (s:Nat) (v:Value):az:={A with L:=lW A.L v (.keys s),fu:=lq A.fu s v}
theorem aF.P8 {A:az} {D:St} {w H:World} (h:aF A D w) {s:Nat} {t:bL} (ht:D.ai.getD s none=some t) (l:List _) (v':Value)
 (hg:w.grownBy H (A.fu s).ownBlock) (ho:H.ownsRow 0 3 1 v' l.length (l.map i64)) (hw:v'.ownBlock=(A.fu s).ownBlock∨∀ g,v'.ownBlock=some g->w.heap.size<=g):
 aF (A.vH s v') (D.bM s {t with keys:=l}) (H.setCell (J (A.bt s) 6) v')∧Grow A.L w (A.vH s v').L (H.setCell (J (A.bt s) 6) v')∧H.cell? (J (A.bt s) 6)=some (A.fu s)∧H.frozen? (J (A.bt s) 6)=false:=by
 obtain⟨h1,g1⟩:=h.mem.grown (.keys s) (mem_keys ht) hg ho hw;have e2:iI (bB A D) (.keys s) (.own v' 3 1 l.length (l.map i64)) (.fI s)=.obj (A.bt s) (fw A s t) 131:=by rw[aT _ _ (by simp),jF ht]
 have h2:=h1.put (.fI s) e2 6 v';have g2:=h1.df e2 6 v';have g:=g1.trans g2;refine⟨⟨?_,h.ev.grow g,h.sl,h.nw,h.nt,h.nv,by simpa [St.bM] using h.n8,h.nc⟩,g,h1.cell e2 6 rfl,h1.frozen e2 6⟩;refine h2.of_eq fun q=>?_
 by_cases hs:q.tx=some s
 . rw[iL _ _ hs,dB (dA ht),aW rfl]
   unfold iI;rw[iL A _ hs,ht]
   cases q<;>simp[bW.tx] at hs<;>subst hs<;>simp[gZ,iq,bL.cell,fw,az.vH,lq]
 . have e3:q≠.keys s:=by rintro rfl;exact hs rfl
   have e4:q≠.fI s:=by rintro rfl;exact hs rfl
   rw[aT _ _ e4,aT _ _ e3,jG _ ht _ hs];exact mO (A:=A) (A':=A.vH s v') ⟨rfl,rfl,rfl,rfl,rfl,rfl,rfl,rfl,rfl,rfl,rfl,rfl,rfl,rfl,rfl,rfl,rfl,fun k Y=>by first|rfl|exact bJ _ _ Y,fun k Y=>by first|rfl|exact bJ _ _ Y,fun k Y=>by first|rfl|exact bJ _ _ Y,fun k Y=>by first|rfl|exact bJ _ _ Y,fun k Y=>by first|rfl|exact bJ _ _ Y,fun _ _=>rfl,fun _ _=>rfl⟩ D hs
theorem mem_reads {A:az} {D:St} {s:Nat} {t:bL} (ht:D.ai.getD s none=some t):bB A D (.reads s)=.own (A.fO s) 250 3 t.reads.length (kC t.reads):=by simp only[bB,ht]
def az.rW (A:az) (s:Nat) (v:Value):az:={A with L:=lW A.L v (.reads s),fO:=lq A.fO s v}
theorem aF.MZ {A:az} {D:St} {w H:World} (h:aF A D w) {s:Nat} {t:bL} (ht:D.ai.getD s none=some t) (l:List _) (v':Value)
 (hg:w.grownBy H (A.fO s).ownBlock) (ho:H.ownsRow 0 250 3 v' l.length (kC l)) (hw:v'.ownBlock=(A.fO s).ownBlock∨∀ g,v'.ownBlock=some g->w.heap.size<=g):
 aF (A.rW s v') (D.bM s {t with reads:=l}) (H.setCell (J (A.bt s) 8) v')∧Grow A.L w (A.rW s v').L (H.setCell (J (A.bt s) 8) v')∧H.cell? (J (A.bt s) 8)=some (A.fO s)∧H.frozen? (J (A.bt s) 8)=false:=by
 obtain⟨h1,g1⟩:=h.mem.grown (.reads s) (mem_reads ht) hg ho hw;have e2:iI (bB A D) (.reads s) (.own v' 250 3 l.length (kC l)) (.fI s)=.obj (A.bt s) (fw A s t) 131:=by rw[aT _ _ (by simp),jF ht]
 have h2:=h1.put (.fI s) e2 8 v';have g2:=h1.df e2 8 v';have g:=g1.trans g2;refine⟨⟨?_,h.ev.grow g,h.sl,h.nw,h.nt,h.nv,by simpa [St.bM] using h.n8,h.nc⟩,g,h1.cell e2 8 rfl,h1.frozen e2 8⟩;refine h2.of_eq fun q=>?_
 by_cases hs:q.tx=some s
 . rw[iL _ _ hs,dB (dA ht),aW rfl]
   unfold iI;rw[iL A _ hs,ht]
   cases q<;>simp[bW.tx] at hs<;>subst hs<;>simp[gZ,iq,bL.cell,fw,az.rW,lq]
 . have e3:q≠.reads s:=by rintro rfl;exact hs rfl
   have e4:q≠.fI s:=by rintro rfl;exact hs rfl
   rw[aT _ _ e4,aT _ _ e3,jG _ ht _ hs];exact mO (A:=A) (A':=A.rW s v') ⟨rfl,rfl,rfl,rfl,rfl,rfl,rfl,rfl,rfl,rfl,rfl,rfl,rfl,rfl,rfl,rfl,rfl,fun k Y=>by first|rfl|exact bJ _ _ Y,fun k Y=>by first|rfl|exact bJ _ _ Y,fun k Y=>by first|rfl|exact bJ _ _ Y,fun k Y=>by first|rfl|exact bJ _ _ Y,fun k Y=>by first|rfl|exact bJ _ _ Y,fun _ _=>rfl,fun _ _=>rfl⟩ D hs
theorem mP {A:az} {D:St} {s:Nat} {t:bL} (ht:D.ai.getD s none=some t):bB A D (.aR s)=.own (A.eQ s) 3 1 t.aR.length (t.aR.map i64):=by simp only[bB,ht]
def az.rX (A:az) (s:Nat) (v:Value):az:={A with L:=lW A.L v (.aR s),eQ:=lq A.eQ s v}
theorem aF.M0 {A:az} {D:St} {w H:World} (h:aF A D w) {s:Nat} {t:bL} (ht:D.ai.getD s none=some t) (l:List _) (v':Value)
 (hg:w.grownBy H (A.eQ s).ownBlock) (ho:H.ownsRow 0 3 1 v' l.length (l.map i64)) (hw:v'.ownBlock=(A.eQ s).ownBlock∨∀ g,v'.ownBlock=some g->w.heap.size<=g):
 aF (A.rX s v') (D.bM s {t with aR:=l}) (H.setCell (J (A.bt s) 9) v')∧Grow A.L w (A.rX s v').L (H.setCell (J (A.bt s) 9) v')∧H.cell? (J (A.bt s) 9)=some (A.eQ s)∧H.frozen? (J (A.bt s) 9)=false:=by
 obtain⟨h1,g1⟩:=h.mem.grown (.aR s) (mP ht) hg ho hw;have e2:iI (bB A D) (.aR s) (.own v' 3 1 l.length (l.map i64)) (.fI s)=.obj (A.bt s) (fw A s t) 131:=by rw[aT _ _ (by simp),jF ht]
 have h2:=h1.put (.fI s) e2 9 v';have g2:=h1.df e2 9 v';have g:=g1.trans g2;refine⟨⟨?_,h.ev.grow g,h.sl,h.nw,h.nt,h.nv,by simpa [St.bM] using h.n8,h.nc⟩,g,h1.cell e2 9 rfl,h1.frozen e2 9⟩;refine h2.of_eq fun q=>?_
 by_cases hs:q.tx=some s
 . rw[iL _ _ hs,dB (dA ht),aW rfl]
   unfold iI;rw[iL A _ hs,ht]
   cases q<;>simp[bW.tx] at hs<;>subst hs<;>simp[gZ,iq,bL.cell,fw,az.rX,lq]
 . have e3:q≠.aR s:=by rintro rfl;exact hs rfl
   have e4:q≠.fI s:=by rintro rfl;exact hs rfl
   rw[aT _ _ e4,aT _ _ e3,jG _ ht _ hs];exact mO (A:=A) (A':=A.rX s v') ⟨rfl,rfl,rfl,rfl,rfl,rfl,rfl,rfl,rfl,rfl,rfl,rfl,rfl,rfl,rfl,rfl,rfl,fun k Y=>by first|rfl|exact bJ _ _ Y,fun k Y=>by first|rfl|exact bJ _ _ Y,fun k Y=>by first|rfl|exact bJ _ _ Y,fun k Y=>by first|rfl|exact bJ _ _ Y,fun k Y=>by first|rfl|exact bJ _ _ Y,fun _ _=>rfl,fun _ _=>rfl⟩ D hs
end Go.Proofs.YthicolbbmjfkfaaGreat.Em
namespace Go.Proofs.YthicolbbmjfkfaaGreat.Em
open Go.ChangeShapes Go.WideShapes Go.ChangeAt Go.RowKit En
theorem aF.pY {A A':az} {D bF:St} {w:World} (h:aF A D w) (hL:A'.L=A.L) (i:Nat) (v:Value) (hcs:bB A' bF .bT=.obj A.V ((oz A D).set i v) 111) (hm:∀ q,q≠.bT->bB A' bF q=bB A D q)
 (h0:bF.aQ=D.aQ) (h0':A'.gV=A.gV) (h1:bF.aG=D.aG) (h2:bF.words.length=D.words.length) (h3:bF.tags.length=D.tags.length) (h4:bF.values.length=D.values.length) (h5:bF.ai.length=D.ai.length) (h6:bF.calls.length=D.calls.length):
 aF A' bF (w.setCell (J A.V i) v)∧Grow A.L w A'.L (w.setCell (J A.V i) v):=by
 have g:=h.mem.df (r:=.bT) rfl i v;rw[hL];exact⟨⟨hL ▸ h.mem.set .bT rfl i v hcs hm,by rw[h0,h0',hL];exact h.ev.grow g,by rw[h1];exact h.sl,by rw[h2,h1];exact h.nw,by rw[h3,h1];exact h.nt,by rw[h4,h1];exact h.nv,h5.trans h.n8,h6.trans h.nc⟩,g⟩
theorem aF.Gv {A:az} {D:St} {w:World} (h:aF A D w) (n:Nat):aF A {D with aB:=n} (w.setCell (J A.V 21) (I n))∧Grow A.L w A.L (w.setCell (J A.V 21) (I n)):=
 h.pY rfl 21 _ rfl (fun q hq=>by cases q<;>first|rfl|exact absurd rfl hq) rfl rfl rfl rfl rfl rfl rfl rfl
theorem aF.JO {A:az} {D:St} {w:World} (h:aF A D w) (n:Nat):aF A {D with seq:=n} (w.setCell (J A.V 22) (I n))∧Grow A.L w A.L (w.setCell (J A.V 22) (I n)):=
 h.pY rfl 22 _ rfl (fun q hq=>by cases q<;>first|rfl|exact absurd rfl hq) rfl rfl rfl rfl rfl rfl rfl rfl
theorem aF.rY {A:az} {D:St} {w:World} (h:aF A D w) (n:Nat):aF A {D with aA:=n} (w.setCell (J A.V 23) (I n))∧Grow A.L w A.L (w.setCell (J A.V 23) (I n)):=
 h.pY rfl 23 _ rfl (fun q hq=>by cases q<;>first|rfl|exact absurd rfl hq) rfl rfl rfl rfl rfl rfl rfl rfl
theorem aF.JP {A:az} {D:St} {w:World} (h:aF A D w) (n:Nat):aF A {D with low:=n} (w.setCell (J A.V 26) (zu n))∧Grow A.L w A.L (w.setCell (J A.V 26) (zu n)):=
 h.pY rfl 26 _ rfl (fun q hq=>by cases q<;>first|rfl|exact absurd rfl hq) rfl rfl rfl rfl rfl rfl rfl rfl
theorem aF.fV {A:az} {D:St} {w:World} (h:aF A D w) (v:Value) (x:S):aF {A with eP:=v} {D with sw:=some x} (w.setCell (J A.V 25) v)∧Grow A.L w A.L (w.setCell (J A.V 25) v):=
 h.pY (A':={A with eP:=v}) (bF:={D with sw:=some x}) rfl 25 _ rfl (fun q hq=>by cases q<;>first|rfl|exact absurd rfl hq) rfl rfl rfl rfl rfl rfl rfl rfl
theorem aF.JQ {A:az} {D:St} {w:World} (h:aF A D w):aF A {D with sw:=none} (w.setCell (J A.V 25) (.nilFunc))∧Grow A.L w A.L (w.setCell (J A.V 25) (.nilFunc)):=
 h.pY (A':=A) (bF:={D with sw:=none}) rfl 25 _ rfl (fun q hq=>by cases q<;>first|rfl|exact absurd rfl hq) rfl rfl rfl rfl rfl rfl rfl rfl
theorem aF.p8 {A:az} {D:St} {w:World} (h:aF A D w) (v:Value) (l:List (Nat×Nat)) (n:Nat):aF {A with jc:=v} {D with cut:=l,cuts:=n} (w.setCell (J A.V 27) v)∧Grow A.L w A.L (w.setCell (J A.V 27) v):=
 h.pY (A':={A with jc:=v}) (bF:={D with cut:=l,cuts:=n}) rfl 27 _ rfl (fun q hq=>by cases q<;>first|rfl|exact absurd rfl hq) rfl rfl rfl rfl rfl rfl rfl rfl
theorem aF.rZ {A:az} {D:St} {w:World} (h:aF A D w) {s:Nat} (hs:s<8) (v:Value):aF {A with bH:=lq A.bH s v} D (w.setCell (J A.V (13+s)) v)∧Grow A.L w A.L (w.setCell (J A.V (13+s)) v):=by
 refine h.pY (A':={A with bH:=lq A.bH s v}) rfl (13+s) v ?_ (fun q hq=>by cases q<;>first|rfl|exact absurd rfl hq) rfl rfl rfl rfl rfl rfl rfl rfl
 match s,hs with
 |0,_|1,_|2,_|3,_|4,_|5,_|6,_|7,_=>rfl
theorem dQ (A:az) (D:St) {s:Nat} (hs:s<8):(oz A D)[5+s]? =some (A.tp D s):=by
 match s,hs with
 |0,_|1,_|2,_|3,_|4,_|5,_|6,_|7,_=>rfl
theorem ed (A:az) (D:St) {s:Nat} (hs:s<8):(oz A D)[13+s]? =some (A.bH s):=by
 match s,hs with
 |0,_|1,_|2,_|3,_|4,_|5,_|6,_|7,_=>rfl
def az.Ao (A:az) (v:Value) (xs:List Value):az:={A with L:=lW A.L v .aQ,jP:=v,gV:=xs}
theorem aF.M3 {A:az} {D:St} {w H:World} (h:aF A D w) (e:Ev) (vp v':Value) (hp:lC A.L w vp (bQ e.res.aL))
 (hg:w.grownBy H A.jP.ownBlock) (ho:H.ownsRow 0 62 12 v' (D.aQ.length+1) (A.gV++pU e vp)) (hw:v'.ownBlock=A.jP.ownBlock∨∀ g,v'.ownBlock=some g->w.heap.size<=g):
 aF (A.Ao v' (A.gV++pU e vp)) (D.event e) (H.setCell (J A.V 24) v')∧Grow A.L w (A.Ao v' (A.gV++pU e vp)).L (H.setCell (J A.V 24) v')∧H.cell? (J A.V 24)=some A.jP∧H.frozen? (J A.V 24)=false:=by
 obtain⟨h1,g1⟩:=h.mem.grown .aQ rfl hg ho hw;have e2:iI (bB A D) .aQ (.own v' 62 12 (D.aQ.length+1) (A.gV++pU e vp)) .bT=.obj A.V (oz A D) 111:=rfl;have h2:=h1.put .bT e2 24 v';have g:=g1.trans (h1.df e2 24 v');refine⟨⟨?_,?_,h.sl,h.nw,h.nt,h.nv,h.n8,h.nc⟩,g,h1.cell e2 24 rfl,h1.frozen e2 24⟩
 . refine h2.of_eq fun q=>?_
   cases q<;>first|rfl|skip
   simp[bB,iI,St.event,az.Ao]
 . exact (h.ev.grow g).snoc (hp.grow g)
theorem iM {A:az} {D:St} {s:Nat} {c:dY} (hc:D.calls.getD s none=some c):bB A D (.aL s)=.own (A.aX s) 152 2 c.r.aL.length (bQ c.r.aL):=by simp only[bB,hc]
structure az.R3 (A A':az) (s:Nat):Prop where
 V:A'.V=A.V
 ba:A'.ba=A.ba
 bw:A'.bw=A.bw
 bp:A'.bp=A.bp
 bs:A'.bs=A.bs
 bv:A'.bv=A.bv
 bt:A'.bt=A.bt
 bm:A'.bm=A.bm
 bx:A'.bx=A.bx
 fH:A'.fH=A.fH
 jP:A'.jP=A.jP
 jc:A'.MW=A.MW
 eP:A'.eP=A.eP
 gV:A'.gV=A.gV
 bH:A'.bH=A.bH
 fu:A'.fu=A.fu
 fO:A'.fO=A.fO
 eQ:A'.eQ=A.eQ
 mp:A'.mp=A.mp
 mt:A'.mt=A.mt
 lX:A'.lX=A.lX
 bc:∀ k,k≠s->A'.bc k=A.bc k
 bE:∀ k,k≠s->A'.bE k=A.bE k
 aX:∀ k,k≠s->A'.aX k=A.aX k
theorem qF {A A':az} {s:Nat} (h:A.R3 A' s) (D:St) {q:bW} (hq:q.cl≠some s):bB A' D q=bB A D q:=by
 have c1:A'.jc=A.jc:=congrArg (·.1) h.jc;have c2:A'.hcut=A.hcut:=congrArg (·.2.1) h.jc;have c3:A'.gu=A.gu:=congrArg (·.2.2.1) h.jc;have c4:A'.eG=A.eG:=congrArg (·.2.2.2) h.jc;have tp:∀ k,A'.tp D k=A.tp D k:=fun k=>by unfold az.tp;rw[h.bt]
 have tc:∀ k t,fw A' k t=fw A k t:=fun k t=>by simp only[fw,h.bm,h.fu,h.fO,h.eQ,h.mt,h.lX]
 have me:∀ k t,iq A' k t=iq A k t:=fun k t=>by simp only[iq,h.bx]
 have cc:∀ k,k≠s->∀ c,fP A' k c=fP A k c:=fun k Y c=>by simp only[fP,h.bE k Y,h.aX k Y]
 cases q<;>simp only[bW.cl,ne_eq,Option.some.injEq,not_false_eq_true] at hq<;>first
  |(simp only[bB,oz,az.sv,oP,mq,yK,oQ,tp,h.bH,h.V,h.ba,h.bw,h.bp,h.bs,h.bv,h.fH,h.jP,c1,c2,c3,c4,h.eP,h.gV,h.bt,h.bm,h.bx,h.fu,h.fO,h.eQ,h.mp,tc,me];done)
  |(simp only[bB,h.bc _ hq,cc _ hq];done)
  |(simp only[bB,h.aX _ hq];done)
theorem aF.r9 {A:az} {D:St} {w:World} (h:aF A D w) {s:Nat} {c:dY} (hc:D.calls.getD s none=some c) (v:Value) (k:Option K):
 aF {A with bE:=lq A.bE s v} (D.aM s {c with k:=k}) (w.setCell (J (A.bc s) 4) v)∧Grow A.L w A.L (w.setCell (J (A.bc s) 4) v):=by
 have g:=h.mem.df (lY hc) 4 v;refine⟨⟨h.mem.set (.call s) (lY hc) 4 v ?_ ?_,h.ev.grow g,h.sl,h.nw,h.nt,h.nv,h.n8,by simpa [St.aM] using h.nc⟩,g⟩
 . rw[kD _ _ (s:=s) rfl,di (bR hc),aW rfl]
   simp[nG,fP,lq]
 . intro q hq
   by_cases hs:q.cl=some s
   . rw[kD _ _ hs,kD A _ hs,di (bR hc),aW rfl,hc]
     cases q<;>simp[bW.cl] at hs<;>subst hs<;>first|exact absurd rfl hq|(simp[nG];done)
   . rw[mH _ hc _ hs]
     exact qF (A:=A) (A':={A with bE:=lq A.bE s v}) ⟨rfl,rfl,rfl,rfl,rfl,rfl,rfl,rfl,rfl,rfl,rfl,rfl,rfl,rfl,rfl,rfl,rfl,rfl,rfl,rfl,rfl,fun _ _=>rfl,fun k Y=>bJ _ _ Y,fun _ _=>rfl⟩ D hs
def az.si (A:az) (s:Nat) (v:Value):az:={A with L:=lW A.L v (.aL s),aX:=lq A.aX s v}
theorem aF.M8 {A:az} {D:St} {w H:World} (h:aF A D w) {s:Nat} {c:dY} (hc:D.calls.getD s none=some c) (l:List (Nat×Nat)) (v':Value)
 (hg:w.grownBy H (A.aX s).ownBlock) (ho:H.ownsRow 0 152 2 v' l.length (bQ l)) (hw:v'.ownBlock=(A.aX s).ownBlock∨∀ g,v'.ownBlock=some g->w.heap.size<=g):
 aF (A.si s v') (D.aM s {c with r:={c.r with aL:=l}}) (H.setCell (J (A.bc s) 7) v')∧Grow A.L w (A.si s v').L (H.setCell (J (A.bc s) 7) v')∧H.cell? (J (A.bc s) 7)=some (A.aX s)∧H.frozen? (J (A.bc s) 7)=false:=by
 obtain⟨h1,g1⟩:=h.mem.grown (.aL s) (iM hc) hg ho hw;have e2:iI (bB A D) (.aL s) (.own v' 152 2 l.length (bQ l)) (.call s)=.obj (A.bc s) (fP A s c) 141:=by rw[aT _ _ (by simp),lY hc]
 have h2:=h1.put (.call s) e2 7 v';have g:=g1.trans (h1.df e2 7 v');refine⟨⟨?_,h.ev.grow g,h.sl,h.nw,h.nt,h.nv,h.n8,by simpa [St.aM] using h.nc⟩,g,h1.cell e2 7 rfl,h1.frozen e2 7⟩;refine h2.of_eq fun q=>?_
 by_cases hs:q.cl=some s
 . rw[kD _ _ hs,di (bR hc),aW rfl]
   unfold iI;rw[kD A _ hs,hc]
   cases q<;>simp[bW.cl] at hs<;>subst hs<;>simp[nG,fP,az.si,lq]
 . have e3:q≠.aL s:=by rintro rfl;exact hs rfl
   have e4:q≠.call s:=by rintro rfl;exact hs rfl
   rw[aT _ _ e4,aT _ _ e3,mH _ hc _ hs];exact qF (A:=A) (A':=A.si s v') ⟨rfl,rfl,rfl,rfl,rfl,rfl,rfl,rfl,rfl,rfl,rfl,rfl,rfl,rfl,rfl,rfl,rfl,rfl,rfl,rfl,rfl,fun _ _=>rfl,fun _ _=>rfl,fun k Y=>bJ _ _ Y⟩ D hs
end Go.Proofs.YthicolbbmjfkfaaGreat.Em
namespace Go.Proofs.YthicolbbmjfkfaaGreat.Em
open Go.ChangeShapes Go.WideShapes Go.ChangeAt Go.RowKit En
theorem Holds.none {L:eH} {w:World} {m m':bW->Entry} (h:Holds L w m) (e:∀ q,m' q=m q∨m' q=.none):Holds L w m':=
 ⟨fun q=>by rcases e q with e|e<;>rw[e];exact h.all q;trivial,h.fresh⟩
def sets (cs:List Value):Nat->List Value->List Value
 |_,[]=>cs
 |o,v::r=>sets (cs.set o v) (o+1) r
theorem Gw {m:bW->Entry} {r:bW} {e:Entry} (he:m r=e) (q:bW):iI m r e q=m q:=by
 unfold iI
 split
 . rename_i hq;rw[hq,he]
 . rfl
theorem Holds.puts {L:eH} (r:bW) {b:Nat} {T:TypeId} (hr:r≠.tmp):∀ (vs:List Value) (o:Nat) {w:World} {m:bW->Entry} {cs:List Value},Holds L w m->m r=.obj b cs T->
 Holds L (w.setCells b o vs) (iI m r (.obj b (sets cs o vs) T))∧Grow L w L (w.setCells b o vs)
 |[],o,w,m,cs,h,he=>⟨h.of_eq (Gw he),Grow.refl _ _⟩
 |v::vs,o,w,m,cs,h,he=>by
  have h1:=h.put r he o v;have g1:=h.df he o v hr;obtain⟨h2,g2⟩:=Holds.puts r hr vs (o+1) h1 (fE _ _ _);refine⟨?_,g1.trans g2⟩;refine h2.of_eq fun q=>?_
  by_cases hq:q=r
  . subst hq;rw[fE,fE];rfl
  . rw[aT _ _ hq,aT _ _ hq,aT _ _ hq]
def az.sj (A:az) (s:Nat) (v:Value):az:={A with aX:=lq A.aX s v}
theorem aF.P9 {A:az} {D:St} {w:World} (h:aF A D w) {s:Nat} {c:dY} (hc:D.calls.getD s none=some c) (r:mo) (vp:Value)
 (hp:(vp=A.aX s∧r.aL=c.r.aL)∨(vp=.slice none 0 0∧r.aL=[])):
 aF (A.sj s vp) (D.aM s {c with r:=r}) (w.setCells (A.bc s) 5 [i64 r.e,i64 r.value,vp,i64 r.over,i64 r.aI])∧Grow A.L w A.L (w.setCells (A.bc s) 5 [i64 r.e,i64 r.value,vp,i64 r.over,i64 r.aI]):=by
 have h1:Holds A.L w (iI (bB A D) (.aL s) (.own vp 152 2 r.aL.length (bQ r.aL))):=by
  rcases hp with ⟨rfl,e⟩|⟨rfl,e⟩
  . rw[e]
    exact h.mem.of_eq (Gw (iM hc))
  . rw[e]
    exact h.mem.shrink (.aL s) (iM hc) (World.ownsRow_nil w 0 152 2) (.inr rfl)
 have e2:iI (bB A D) (.aL s) (.own vp 152 2 r.aL.length (bQ r.aL)) (.call s)=.obj (A.bc s) (fP A s c) 141:=by rw[aT _ _ (by simp),lY hc]
 obtain⟨h2,g⟩:=Holds.puts (.call s) (by simp) [i64 r.e,i64 r.value,vp,i64 r.over,i64 r.aI] 5 h1 e2;refine⟨⟨?_,h.ev.grow g,h.sl,h.nw,h.nt,h.nv,h.n8,by simpa [St.aM] using h.nc⟩,g⟩;refine h2.of_eq fun q=>?_
 by_cases hs:q.cl=some s
 . rw[kD _ _ hs,di (bR hc),aW rfl]
   unfold iI;rw[kD A _ hs,hc]
   cases q<;>simp[bW.cl] at hs<;>subst hs<;>simp[nG,fP,az.sj,lq,sets]
 . have e3:q≠.aL s:=by rintro rfl;exact hs rfl
   have e4:q≠.call s:=by rintro rfl;exact hs rfl
   rw[aT _ _ e4,aT _ _ e3,mH _ hc _ hs];exact qF (A:=A) (A':=A.sj s vp) ⟨rfl,rfl,rfl,rfl,rfl,rfl,rfl,rfl,rfl,rfl,rfl,rfl,rfl,rfl,rfl,rfl,rfl,rfl,rfl,rfl,rfl,fun _ _=>rfl,fun _ _=>rfl,fun k Y=>bJ _ _ Y⟩ D hs
theorem aF.Cf {A:az} {D:St} {w:World} (h:aF A D w) (s:Nat):aF A {D with calls:=D.calls.set s none} w:=by
 refine⟨h.mem.none fun q=>?_,h.ev,h.sl,h.nw,h.nt,h.nv,h.n8,by simpa using h.nc⟩
 cases q<;>first|exact .inl rfl|skip
 all_goals
  rename_i k;simp only[bB,mM,List.getElem?_set]
  by_cases Y:s=k
  . right;subst Y;rw[aW rfl];by_cases Y:s<D.calls.length<;>simp[Y]
  . left;rw[bu Y]
theorem aF.M9 {A:az} {D:St} {w:World} (h:aF A D w) {s:Nat} (hs:s<8):aF A {D with ai:=D.ai.set s none} (w.setCell (J A.V (5+s)) (.pointer none))∧Grow A.L w A.L (w.setCell (J A.V (5+s)) (.pointer none)):=by
 have g:=h.mem.df (r:=.bT) rfl (5+s) (.pointer none);have h1:=h.mem.put .bT rfl (5+s) (.pointer none);have n8:=h.n8;refine⟨⟨h1.none fun q=>?_,h.ev.grow g,h.sl,h.nw,h.nt,h.nv,by simpa using h.n8,h.nc⟩,g⟩;have ge:∀ k,(D.ai.set s none).getD k none=if k=s then none else D.ai.getD k none:=fun k=>kL _ _ _ _ _ (by omega)
 have tp:∀ k,A.tp {D with ai:=D.ai.set s none} k=if k=s then .pointer none else A.tp D k:=by
  intro k;unfold az.tp;simp only[ge];by_cases Y:k=s<;>simp[Y]
 cases q<;>first|exact .inl rfl|skip
 case bT=>
  left;simp only[iI,aW,bB,oz,tp]
  match s,hs with
  |0,_|1,_|2,_|3,_|4,_|5,_|6,_|7,_=>rfl
 all_goals
  simp only[bB,iI,ge]
  first
   | (rename_i k; by_cases Y : k = s
      . right;rw[aW Y]
      . left;rw[bu Y];simp)
   | (rename_i k j; by_cases Y : k = s
      . right;rw[aW Y];rfl
      . left;rw[bu Y];simp)
end Go.Proofs.YthicolbbmjfkfaaGreat.Em
namespace Go.Proofs.YthicolbbmjfkfaaGreat.Em
open Go.ChangeShapes Go.WideShapes Go.ChangeAt Go.RowKit En
/- Pairs of cells. -/
theorem Ap (l:List (Value×Value)) (i:Nat) {p:Value×Value} (h:l[i]? =some p):(two l)[2*i]? =some p.1∧(two l)[2*i+1]? =some p.2:=by
 induction l generalizing i with
 |nil=>simp at h
 |cons a l ih=>
  cases i with
  |zero=>simp at h;subst h;exact⟨rfl,rfl⟩
  |succ i=>
   have:=ih i (by simpa using h);have e1:2*(i+1)=2*i+1+1:=by omega
   simp only[two,List.flatMap_cons,e1] at*;exact⟨by simpa using this.1,by simpa using this.2⟩
theorem vQ (l:List (Value×Value)) (i:Nat) (v:Value) {p:Value×Value} (h:l[i]? =some p):(two l).set (2*i+1) v=two (l.set i (p.1,v)):=by
 induction l generalizing i with
 |nil=>simp at h
 |cons a l ih=>
  cases i with
  |zero=>simp at h;subst h;rfl
  |succ i=>
   have:=ih i (by simpa using h);have e1:2*(i+1)+1=2*i+1+1+1:=by omega
   simp only[two,List.flatMap_cons,e1,List.set_cons_succ] at*
   simpa using this
theorem Cg (l:List (Value×Value)) (i:Nat) (v:Value) {p:Value×Value} (h:l[i]? =some p):(two l).set (2*i) v=two (l.set i (v,p.2)):=by
 induction l generalizing i with
 |nil=>simp at h
 |cons a l ih=>
  cases i with
  |zero=>simp at h;subst h;rfl
  |succ i=>
   have:=ih i (by simpa using h);have e1:2*(i+1)=2*i+1+1:=by omega
   simp only[two,List.flatMap_cons,e1,List.set_cons_succ] at*
   simpa using this
theorem EE (l:List (Value×Value)):(two l).length=2*l.length:=by
 induction l with
 |nil=>rfl
 |cons a l ih=>simp only[two,List.flatMap_cons,jb,List.length_cons,List.length_nil] at *;omega
theorem aF.role {A:az} {D bF:St} {w E:World} (h:aF A D w) (hm:Holds A.L E (bB A bF)) (g:Grow A.L w A.L E) (h0:bF.aQ=D.aQ) (h1:bF.aG=D.aG) (h2:bF.words.length=D.words.length) (h3:bF.tags.length=D.tags.length) (h4:bF.values.length=D.values.length) (h5:bF.ai.length=D.ai.length) (h6:bF.calls.length=D.calls.length):aF A bF E:=
 ⟨hm,by rw[h0];exact h.ev.grow g,by rw[h1];exact h.sl,by rw[h2,h1];exact h.nw,by rw[h3,h1];exact h.nt,by rw[h4,h1];exact h.nv,h5.trans h.n8,h6.trans h.nc⟩
theorem mQ {α:Type} (l:List α) (i:Nat) (d:α) (h:i<l.length):l[i]? =some (l.getD i d):=by simp[mM,h]
theorem aF.val {A:az} {D:St} {w:World} (h:aF A D w) {i:Nat} (hi:i<D.aG):w.cell? ⟨A.bv,2*i,none⟩=some (I ((D.values.getD i (0,0)).1:Int))∧w.cell? ⟨A.bv,2*i+1,none⟩=some (I ((D.values.getD i (0,0)).2:Int)):=by
 have e:(D.values.map fun p=>(i64 p.1,i64 p.2))[i]? =some (i64 (D.values.getD i (0,0)).1,i64 (D.values.getD i (0,0)).2):=by
  rw[List.getElem?_map,mQ D.values i (0,0) (by rw[h.nv];exact hi)];rfl
 have:=Ap _ i e;exact⟨h.mem.cell (r:=.values) rfl _ this.1,h.mem.cell (r:=.values) rfl _ this.2⟩
theorem aF.R4 {A:az} {D:St} {w:World} (h:aF A D w) (i:Nat):w.frozen? (J A.bv i)=false:=h.mem.frozen (r:=.values) rfl i
theorem oC (A:az) (D:St) (l:List (Nat×Nat)) {q:bW} (hq:q≠.values):bB A {D with values:=l} q=bB A D q:=by cases q<;>first|rfl|exact absurd rfl hq
theorem aF.Qa {A:az} {D:St} {w:World} (h:aF A D w) {i:Nat} (hi:i<D.aG) (n:Nat):
 aF A {D with values:=D.values.set i ((D.values.getD i (0,0)).1,n)} (w.setCell ⟨A.bv,2*i+1,none⟩ (I n))∧Grow A.L w A.L (w.setCell ⟨A.bv,2*i+1,none⟩ (I n)):=by
 have g:=h.mem.df (r:=.values) rfl (2*i+1) (I n);have e:(D.values.map fun p=>(i64 p.1,i64 p.2))[i]? =some (i64 (D.values.getD i (0,0)).1,i64 (D.values.getD i (0,0)).2):=by
  rw[List.getElem?_map,mQ D.values i (0,0) (by rw[h.nv];exact hi)];rfl
 refine⟨h.role (h.mem.set .values rfl _ _ ?_ fun q hq=>oC A D _ hq) g rfl rfl rfl rfl (by simp) rfl rfl,g⟩;show Entry.obj A.bv (two _) 190=_;rw[oQ,vQ _ _ _ e,List.map_set]
theorem aF.Qb {A:az} {D:St} {w:World} (h:aF A D w) {i:Nat} (hi:i<D.aG) (k n:Nat):
 aF A {D with values:=D.values.set i (k,n)} (w.setCells A.bv (2*i) [I k,I n])∧Grow A.L w A.L (w.setCells A.bv (2*i) [I k,I n]):=by
 have e:(D.values.map fun p=>(i64 p.1,i64 p.2))[i]? =some (i64 (D.values.getD i (0,0)).1,i64 (D.values.getD i (0,0)).2):=by
  rw[List.getElem?_map,mQ D.values i (0,0) (by rw[h.nv];exact hi)];rfl
 obtain⟨h2,g⟩:=Holds.puts .values (by simp) [I k,I n] (2*i) h.mem (m:=bB A D) (cs:=oQ D) (b:=A.bv) (T:=190) rfl;refine⟨h.role (h2.of_eq fun q=>?_) g rfl rfl rfl rfl (by simp) rfl rfl,g⟩
 by_cases hq:q=.values
 . subst hq
   rw[fE];show Entry.obj A.bv (two _) 190=_;have e2:((D.values.map fun p=>(i64 p.1,i64 p.2)).set i (I k,i64 (D.values.getD i (0,0)).2))[i]? =some (I k,i64 (D.values.getD i (0,0)).2):=by
    rw[List.getElem?_set];simp[h.nv,hi]
   simp only[sets,oQ];rw[Cg _ _ _ e,vQ _ _ _ e2,List.map_set,List.set_set]
 . rw[aT _ _ hq,oC A D _ hq]
/- The pool. -/
theorem aF.tag {A:az} {D:St} {w:World} (h:aF A D w) {i:Nat} (hi:i<D.aG):w.cell? ⟨A.bs,2*i,none⟩=some (I ((D.tags.getD i (0,false)).1:Int))∧w.cell? ⟨A.bs,2*i+1,none⟩=some (.bool (D.tags.getD i (0,false)).2):=by
 have e:(D.tags.map fun p=>(i64 p.1,Value.bool p.2))[i]? =some (i64 (D.tags.getD i (0,false)).1,Value.bool (D.tags.getD i (0,false)).2):=by
  rw[List.getElem?_map,mQ D.tags i (0,false) (by rw[h.nt];exact hi)];rfl
 have:=Ap _ i e;exact⟨h.mem.cell (r:=.tags) rfl _ this.1,h.mem.cell (r:=.tags) rfl _ this.2⟩
theorem aF.Qc {A:az} {D:St} {w:World} (h:aF A D w) (i:Nat):w.frozen? (J A.bs i)=false:=h.mem.frozen (r:=.tags) rfl i
theorem p9 (A:az) (D:St) (l:List (Nat×Bool)) {q:bW} (hq:q≠.tags):bB A {D with tags:=l} q=bB A D q:=by cases q<;>first|rfl|exact absurd rfl hq
theorem aF.Ch {A:az} {D:St} {w:World} (h:aF A D w) {i:Nat} (hi:i<D.aG) (b:Bool):
 aF A {D with tags:=D.tags.set i ((D.tags.getD i (0,false)).1,b)} (w.setCell ⟨A.bs,2*i+1,none⟩ (.bool b))∧Grow A.L w A.L (w.setCell ⟨A.bs,2*i+1,none⟩ (.bool b)):=by
 have g:=h.mem.df (r:=.tags) rfl (2*i+1) (.bool b);have e:(D.tags.map fun p=>(i64 p.1,Value.bool p.2))[i]? =some (i64 (D.tags.getD i (0,false)).1,Value.bool (D.tags.getD i (0,false)).2):=by
  rw[List.getElem?_map,mQ D.tags i (0,false) (by rw[h.nt];exact hi)];rfl
 refine⟨h.role (h.mem.set .tags rfl _ _ ?_ fun q hq=>p9 A D _ hq) g rfl rfl rfl (by simp) rfl rfl rfl,g⟩;show Entry.obj A.bs (two _) 243=_;rw[yK,vQ _ _ _ e,List.map_set]
theorem aF.Qd {A:az} {D:St} {w:World} (h:aF A D w) {i:Nat} (hi:i<D.aG) (n:Nat):
 aF A {D with tags:=D.tags.set i (n,(D.tags.getD i (0,false)).2)} (w.setCell ⟨A.bs,2*i,none⟩ (I n))∧Grow A.L w A.L (w.setCell ⟨A.bs,2*i,none⟩ (I n)):=by
 have g:=h.mem.df (r:=.tags) rfl (2*i) (I n);have e:(D.tags.map fun p=>(i64 p.1,Value.bool p.2))[i]? =some (i64 (D.tags.getD i (0,false)).1,Value.bool (D.tags.getD i (0,false)).2):=by
  rw[List.getElem?_map,mQ D.tags i (0,false) (by rw[h.nt];exact hi)];rfl
 refine⟨h.role (h.mem.set .tags rfl _ _ ?_ fun q hq=>p9 A D _ hq) g rfl rfl rfl (by simp) rfl rfl rfl,g⟩;show Entry.obj A.bs (two _) 243=_;rw[yK,Cg _ _ _ e,List.map_set]
theorem aF.bP {A:az} {D:St} {w:World} (h:aF A D w) (i:Nat) {v:Value} (hv:(mq A D)[i]? =some v):w.cell? (J A.bp i)=some v:=h.mem.cell (r:=.bP) rfl i hv
theorem aF.vR {A:az} {D:St} {w:World} (h:aF A D w) (i:Nat):w.frozen? (J A.bp i)=false:=h.mem.frozen (r:=.bP) rfl i
def az.Gx (A:az) (v:Value):az:={A with L:=lW A.L v .free,fH:=v}
theorem aF.Qe {A:az} {D:St} {w H:World} (h:aF A D w) (l:List Nat) (v':Value)
 (hg:w.grownBy H A.fH.ownBlock) (ho:H.ownsRow 0 3 1 v' l.length (l.map i64)) (hw:v'.ownBlock=A.fH.ownBlock∨∀ g,v'.ownBlock=some g->w.heap.size<=g):
 aF (A.Gx v') {D with free:=l} (H.setCell (J A.bp 2) v')∧Grow A.L w (A.Gx v').L (H.setCell (J A.bp 2) v')∧H.cell? (J A.bp 2)=some A.fH∧H.frozen? (J A.bp 2)=false:=by
 obtain⟨h1,g1⟩:=h.mem.grown .free rfl hg ho hw;have e2:iI (bB A D) .free (.own v' 3 1 l.length (l.map i64)) .bP=.obj A.bp (mq A D) 208:=rfl;have h2:=h1.put .bP e2 2 v';have g:=g1.trans (h1.df e2 2 v');refine⟨⟨h2.of_eq fun q=>?_,h.ev.grow g,h.sl,h.nw,h.nt,h.nv,h.n8,h.nc⟩,g,h1.cell e2 2 rfl,h1.frozen e2 2⟩
 cases q<;>rfl
theorem aF.Na {A:az} {D:St} {w:World} (h:aF A D w) (l:List Nat) (v':Value) (ho:w.ownsRow 0 3 1 v' l.length (l.map i64)) (hv:v'.ownBlock=A.fH.ownBlock):
 aF {A with fH:=v'} {D with free:=l} (w.setCell (J A.bp 2) v')∧Grow A.L w A.L (w.setCell (J A.bp 2) v'):=by
 have h1:=h.mem.shrink .free (m:=bB A D) rfl ho (.inl hv);have e2:iI (bB A D) .free (.own v' 3 1 l.length (l.map i64)) .bP=.obj A.bp (mq A D) 208:=rfl;have h2:=h1.put .bP e2 2 v';have g:=h1.df e2 2 v';refine⟨⟨h2.of_eq fun q=>?_,h.ev.grow g,h.sl,h.nw,h.nt,h.nv,h.n8,h.nc⟩,g⟩
 cases q<;>rfl
theorem aF.Nb {A:az} {D:St} {w:World} (h:aF A D w) (n:Nat):aF A {D with jh:=n} (w.setCell (J A.bp 3) (I n))∧Grow A.L w A.L (w.setCell (J A.bp 3) (I n)):=by
 have g:=h.mem.df (r:=.bP) rfl 3 (I n);exact⟨h.role (h.mem.set .bP rfl _ _ rfl fun q hq=>by cases q<;>first|rfl|exact absurd rfl hq) g rfl rfl rfl rfl rfl rfl rfl,g⟩
theorem Qf (A:az) (D:St) (m:Int) {q:bW} (hq:q≠.bP):bB {A with mp:=m} D q=bB A D q:=by cases q<;>first|rfl|exact absurd rfl hq
theorem aF.Ci {A:az} {D:St} {w:World} (h:aF A D w) (m:Int):aF {A with mp:=m} D (w.setCell (J A.bp 5) (.int .i32 m))∧Grow A.L w A.L (w.setCell (J A.bp 5) (.int .i32 m)):=by
 have g:=h.mem.df (r:=.bP) rfl 5 (.int .i32 m);exact⟨⟨h.mem.set .bP rfl _ _ rfl fun q hq=>Qf A D m hq,h.ev.grow g,h.sl,h.nw,h.nt,h.nv,h.n8,h.nc⟩,g⟩
theorem aF.JR {A:az} {D:St} {w:World} (h:aF A D w):aF A {D with listed:=true} (w.setCell (J A.bp 4) (.int .u32 1))∧Grow A.L w A.L (w.setCell (J A.bp 4) (.int .u32 1)):=by
 have g:=h.mem.df (r:=.bP) rfl 4 (.int .u32 1);exact⟨h.role (h.mem.set .bP rfl _ _ rfl fun q hq=>by cases q<;>first|rfl|exact absurd rfl hq) g rfl rfl rfl rfl rfl rfl rfl,g⟩
end Go.Proofs.YthicolbbmjfkfaaGreat.Em
namespace Go.Proofs.YthicolbbmjfkfaaGreat.Em
open Go.ChangeShapes Go.WideShapes Go.ChangeAt Go.RowKit En
theorem oU (l:List (Nat×lg)) (F:Nat) (x:lg) (k:Nat):(upd l F x).lookup k=if k=F then (l.lookup k).map (fun _=>x) else l.lookup k:=by
 induction l with
 |nil=>simp[upd]
 |cons p l ih=>
  obtain⟨a,y⟩:=p;simp only[upd,List.map_cons] at*
  by_cases h1:a=F
  . subst h1
    simp only[aW,List.lookup_cons]
    by_cases h2:k=a
    . subst h2;simp
    . simp only[beq_false_of_ne h2,ih,bu h2]
  . simp only[bu h1,List.lookup_cons]
    by_cases h2:k=a
    . subst h2;simp[h1]
    . simp only[beq_false_of_ne h2,ih]
theorem Ij (A:az) (s:Nat) (t:bL) (F:Nat) (x:lg):iq A s {t with cells:=upd t.cells F x}=iq A s t:=by
 have e:(upd t.cells F x).map (·.1)=t.cells.map (·.1):=by
  unfold upd;rw[List.map_map];refine List.map_congr_left fun p _=>?_
  simp only[Function.comp]
  split
  . rename_i h;exact h.symm
  . rfl
 have e2:∀ (l:List (Nat×lg)),(l.reverse.zipIdx.map fun p=>(⟨i64 p.1.1,ptr (A.bx s p.1.1),p.2⟩:MapEntry))=((l.map (·.1)).reverse.zipIdx.map fun p=>(⟨i64 p.1,ptr (A.bx s p.1),p.2⟩:MapEntry)):=by
  intro l;rw[<-List.map_reverse,List.zipIdx_map];simp[List.map_map,Function.comp_def]
 unfold iq;rw[e2,e2];simp only;rw[e]
theorem oD {A:az} {D:St} {s:Nat} {t:bL} (ht:D.ai.getD s none=some t) {F:Nat} {x:lg} (hx:t.cell F=some x):bB A D (.cell s F)=.obj (A.bx s F) (rU x) 225:=by
 simp only[bB,ht,Option.bind_some,hx]
theorem aF.EF {A:az} {D:St} {w:World} (h:aF A D w) {s:Nat} {t:bL} (ht:D.ai.getD s none=some t) {F:Nat} {x:lg} (hx:t.cell F=some x):
 zV w (A.bx s F) 0 x.own∧zV w (A.bx s F) 1 x.old∧zB w (A.bx s F) 2 x.there:=
 ⟨h.mem.cell (oD ht hx) 0 rfl,h.mem.cell (oD ht hx) 1 rfl,h.mem.cell (oD ht hx) 2 rfl⟩
theorem aF.Ik {A:az} {D:St} {w:World} (h:aF A D w) {s:Nat} {t:bL} (ht:D.ai.getD s none=some t) {F:Nat} {x:lg} (hx:t.cell F=some x) (i:Nat):w.frozen? (J (A.bx s F) i)=false:=h.mem.frozen (oD ht hx) i
theorem aF.tO {A:az} {D:St} {w:World} (h:aF A D w) {s:Nat} {t:bL} (ht:D.ai.getD s none=some t) {F:Nat} {x:lg} (hx:t.cell F=some x) (x':lg) (i:Nat) (v:Value) (hcs:rU x'=(rU x).set i v):
 aF A (D.bM s {t with cells:=upd t.cells F x'}) (w.setCell (J (A.bx s F) i) v)∧Grow A.L w A.L (w.setCell (J (A.bx s F) i) v):=by
 have g:=h.mem.df (oD ht hx) i v;refine⟨h.role (h.mem.set (.cell s F) (oD ht hx) i v ?_ ?_) g rfl rfl rfl rfl rfl (by simp[St.bM]) rfl,g⟩
 . rw[iL A _ (s:=s) rfl,dB (dA ht),aW rfl]
   have:(upd t.cells F x').lookup F=some x':=by rw[oU,aW rfl];unfold bL.cell at hx;rw[hx];rfl
   simp only[gZ,Option.bind_some,bL.cell,this,hcs]
 . intro q hq
   by_cases hs:q.tx=some s
   . rw[iL A _ hs,iL A _ hs,dB (dA ht),aW rfl,ht]
     cases q<;>simp[bW.tx] at hs<;>subst hs<;>first|rfl|skip
     . simp only[gZ,Ij];simp[upd]
     . rename_i k
       have Y:k≠F:=by rintro rfl;exact hq rfl
       simp only[gZ,Option.bind_some,bL.cell,oU,bu Y]
   . exact jG A ht _ hs
theorem su {A A':az} {s:Nat} (h:A.Pz A' s) (h1:A'.bm=A.bm) (h2:A'.bx=A.bx) (h3:A'.fu=A.fu) (h4:A'.fO=A.fO) (h5:A'.eQ=A.eQ) (D:St) {q:bW} (hq:q≠.fI s):bB A' D q=bB A D q:=by
 by_cases hs:q.tx=some s
 . rw[iL _ _ hs,iL _ _ hs]
   cases q<;>simp[bW.tx] at hs<;>subst hs<;>first|exact absurd rfl hq|(simp only[gZ,h1,h2,h3,h4,h5,iq];done)
 . exact mO h D hs
theorem aF.Gy {A:az} {D:St} {w:World} (h:aF A D w) {s:Nat} {t:bL} (ht:D.ai.getD s none=some t) (m:Int):aF {A with mt:=fun k=>if k=s then m else A.mt k} D (w.setCell (J (A.bt s) 11) (.int .i32 m))∧Grow A.L w A.L (w.setCell (J (A.bt s) 11) (.int .i32 m)):=by
 have g:=h.mem.df (jF ht) 11 (.int .i32 m);refine⟨⟨h.mem.set (.fI s) (jF ht) _ _ ?_ fun q hq=>?_,h.ev.grow g,h.sl,h.nw,h.nt,h.nv,h.n8,h.nc⟩,g⟩
 . rw[jF ht];simp[fw,ji]
 . exact su (A:=A) (A':={A with mt:=fun k=>if k=s then m else A.mt k}) (s:=s) ⟨rfl,rfl,rfl,rfl,rfl,rfl,rfl,rfl,rfl,rfl,rfl,rfl,rfl,rfl,rfl,rfl,rfl,fun _ _=>rfl,fun _ _=>rfl,fun _ _=>rfl,fun _ _=>rfl,fun _ _=>rfl,fun k Y=>bu Y,fun _ _=>rfl⟩ rfl rfl rfl rfl rfl D hq
theorem aF.Nc {A:az} {D:St} {w:World} (h:aF A D w) {s:Nat} {t:bL} (ht:D.ai.getD s none=some t) (b:Bool):aF {A with lX:=fun k=>if k=s then b else A.lX k} D (w.setCell (J (A.bt s) 13) (.bool b))∧Grow A.L w A.L (w.setCell (J (A.bt s) 13) (.bool b)):=by
 have g:=h.mem.df (jF ht) 13 (.bool b);refine⟨⟨h.mem.set (.fI s) (jF ht) _ _ ?_ fun q hq=>?_,h.ev.grow g,h.sl,h.nw,h.nt,h.nv,h.n8,h.nc⟩,g⟩
 . rw[jF ht];simp[fw,ji]
 . exact su (A:=A) (A':={A with lX:=fun k=>if k=s then b else A.lX k}) (s:=s) ⟨rfl,rfl,rfl,rfl,rfl,rfl,rfl,rfl,rfl,rfl,rfl,rfl,rfl,rfl,rfl,rfl,rfl,fun _ _=>rfl,fun _ _=>rfl,fun _ _=>rfl,fun _ _=>rfl,fun _ _=>rfl,fun _ _=>rfl,fun k Y=>bu Y⟩ rfl rfl rfl rfl rfl D hq
theorem aF.Nf {A:az} {D:St} {w:World} (h:aF A D w) {s:Nat} {t:bL} (ht:D.ai.getD s none=some t):aF A (D.bM s {t with over:=true}) (w.setCell (J (A.bt s) 10) (.int .u32 1))∧Grow A.L w A.L (w.setCell (J (A.bt s) 10) (.int .u32 1)):=
 h.ED ht {t with over:=true} 10 (.int .u32 1) (by simp[fw,ji]) rfl rfl rfl rfl
def az.ib (A:az) (s b:Nat) (v:Value):az:={A with L:=jy A.L b (.call s),bc:=fun k=>if k=s then b else A.bc k,bE:=lq A.bE s v,aX:=lq A.aX s (.slice none 0 0)}
theorem uK {L:eH} {w H:World} (hB:Below w.heap.size w H) {b:Nat} (Z:w.heap.size<=b) (r:bW):Grow L w (jy L b r) H:=(Grow.below hB).jy Z r
theorem aF.ib {A:az} {D:St} {w H:World} (h:aF A D w) (hB:Below w.heap.size w H) {s b:Nat} (hs:s<8) (Z:w.heap.size<=b) (v:Value) (c:dY) (hc:c.r.aL=[]) (he:H.heap[b]? =some (.cells (fP (A.ib s b v) s c).toArray 141)) (hn:D.calls.getD s none=none):
 aF (A.ib s b v) (D.aM s c) H∧Grow A.L w (A.ib s b v).L H:=by
 have hlt:b<H.heap.size:=gH he;have g:Grow A.L w (jy A.L b (.call s)) H:=uK hB Z _;have h1:=(h.mem.below hB).Ce (.call s) (h.mem.fresh b Z) (.obj b (fP (A.ib s b v) s c) 141) ⟨kG _ _ _,he⟩ hlt;refine⟨⟨?_,h.ev.grow g,h.sl,h.nw,h.nt,h.nv,h.n8,by simpa [St.aM] using h.nc⟩,g⟩;have h2:Holds (jy A.L b (.call s)) H (iI (iI (bB A D) (.call s) (.obj b (fP (A.ib s b v) s c) 141)) (.aL s) (.own (.slice none 0 0) 152 2 0 [])):=by
  refine⟨fun q=>?_,h1.fresh⟩
  by_cases hq:q=.aL s
  . subst hq;rw[fE];exact⟨World.ownsRow_nil H 0 152 2,fun g hg=>by cases hg⟩
  . rw[aT _ _ hq];exact h1.all q
 refine h2.of_eq fun q=>?_
 by_cases hs2:q.cl=some s
 . rw[kD _ _ hs2,di (by rw[h.nc];exact hs),aW rfl]
   cases q<;>simp[bW.cl] at hs2<;>subst hs2<;>simp[nG,iI,az.ib,lq,hc,bQ,two]
 . have e3:q≠.aL s:=by rintro rfl;exact hs2 rfl
   have e4:q≠.call s:=by rintro rfl;exact hs2 rfl
   rw[aT _ _ e3,aT _ _ e4];have:=qF (A:=A) (A':=A.ib s b v) ⟨rfl,rfl,rfl,rfl,rfl,rfl,rfl,rfl,rfl,rfl,rfl,rfl,rfl,rfl,rfl,rfl,rfl,rfl,rfl,rfl,rfl,fun k Y=>bu Y,fun k Y=>bJ _ _ Y,fun k Y=>bJ _ _ Y⟩ (D.aM s c) hs2;rw[this]
   cases hq:q.cl with
   |none=>cases q<;>first|rfl|(simp[bW.cl] at hq;done)
   |some k=>
    have Y:k≠s:=by rintro rfl;exact hs2 hq
    rw[kD A _ hq,kD A _ hq,di (by rw[h.nc];exact hs),bu Y]
def az.gJ (A:az) (s b m:Nat):az:=
 {A with L:=jy (jy A.L b (.fI s)) m (.map s),bt:=fun k=>if k=s then b else A.bt k,bm:=fun k=>if k=s then m else A.bm k,fu:=lq A.fu s (.slice none 0 0),fO:=lq A.fO s (.slice none 0 0),eQ:=lq A.eQ s (.slice none 0 0),mt:=fun k=>if k=s then 0 else A.mt k,lX:=fun k=>if k=s then false else A.lX k}
def az.kE (A:az) (s F b:Nat):az:={A with L:=jy A.L b (.cell s F),bx:=fun k j=>if k=s∧j=F then b else A.bx k j}
theorem EG (A:az) (s:Nat) (t:bL) (F b:Nat) (x:lg) (hx:∀ p∈t.cells,p.1≠F):iq (A.kE s F b) s {t with cells:=(F,x)::t.cells}=iq A s t++[⟨i64 F,ptr b,t.cells.length⟩]:=by
 unfold iq;rw[List.reverse_cons,List.zipIdx_append,List.map_append]
 congr 1
 . refine List.map_congr_left fun p hp=>?_
   have h1:p.1∈t.cells:=by
    have:=List.fst_mem_of_mem_zipIdx hp;exact List.mem_reverse.1 this
   simp[az.kE,hx _ h1]
 . simp[az.kE]
end Go.Proofs.YthicolbbmjfkfaaGreat.Em
namespace Go.Proofs.YthicolbbmjfkfaaGreat.Em
open Go.ChangeShapes Go.WideShapes Go.ChangeAt Go.RowKit En
theorem qb {l:List (Nat×lg)} {F:Nat} (h:l.lookup F=none):∀ p∈l,p.1≠F:=by
 induction l with
 |nil=>intro p hp;simp at hp
 |cons a l ih=>
  obtain⟨k,x⟩:=a;rw[List.lookup_cons] at h;intro p hp
  by_cases Y:F=k
  . subst Y;simp at h
  . rw[beq_false_of_ne Y] at h
    rcases List.mem_cons.1 hp with rfl|hp
    . exact fun e=>Y e.symm
    . exact ih h p hp
theorem mem_map {A:az} {D:St} {s:Nat} {t:bL} (ht:D.ai.getD s none=some t):bB A D (.map s)=.map (A.bm s) (iq A s t) t.cells.length:=by simp only[bB,ht]
theorem aF.map {A:az} {D:St} {w:World} (h:aF A D w) {s:Nat} {t:bL} (ht:D.ai.getD s none=some t):w.heap[A.bm s]? =some (.map (iq A s t).toArray t.cells.length):=by
 have k:=h.mem.all (.map s);rw[mem_map ht] at k;exact k.2
theorem aF.kE {A:az} {D:St} {w H w2:World} (h:aF A D w) (hB:Below w.heap.size w H) {s b:Nat} {t:bL} (ht:D.ai.getD s none=some t) {F:Nat} (hx:t.cell F=none) (Z:w.heap.size<=b) (x:lg)
 (he:H.heap[b]? =some (.cells (rU x).toArray 225)) (hg:H.grownBy w2 (some (A.bm s))) (hm:w2.heap[A.bm s]? =some (.map (iq A s t++[(⟨i64 F,ptr b,t.cells.length⟩:MapEntry)]).toArray (t.cells.length+1))) (hz:w2.heap.size=H.heap.size):
 aF (A.kE s F b) (D.bM s {t with cells:=(F,x)::t.cells}) w2∧Grow A.L w (A.kE s F b).L w2:=by
 have hx':=qb hx;have hlt:b<H.heap.size:=gH he;have hmap:=h.map ht;have hlm:=(h.mem.all (.map s))
 rw[mem_map ht] at hlm;have R6:=h.mem.fresh b Z;have hne:b≠A.bm s:=by rintro rfl;rw[hlm.1] at R6;cases R6
 have k1:=(h.mem.below hB).Ce (.cell s F) R6 (.obj b (rU x) 225) ⟨kG _ _ _,he⟩ hlt;have g1:Grow A.L w (jy A.L b (.cell s F)) H:=uK hB Z _;have UY:jy A.L b (.cell s F) (A.bm s)=some (.map s):=(eO (Ne.symm hne)).trans hlm.1;have k2:Holds (jy A.L b (.cell s F)) w2 (iI (iI (bB A D) (.cell s F) (.obj b (rU x) 225)) (.map s) (.map (A.bm s) (iq A s t++[(⟨i64 F,ptr b,t.cells.length⟩:MapEntry)]) (t.cells.length+1))):=by
  refine k1.upd (.map s) ?_ (fun q hq=>aT _ _ hq) (fun c q hc hl hq=>hg.block c hc ?_) (fun _ _=>rfl) (fun c hc=>k1.fresh c (by omega))
  . rw[fE];exact⟨UY,hm⟩
  . intro e
    obtain rfl:c=A.bm s:=by simpa using e
    rw[UY] at hl;exact hq (zj hl).symm
 have g2:Grow (jy A.L b (.cell s F)) H (jy A.L b (.cell s F)) w2:=by
  refine Grow.grown hg fun g hg'=>?_
  obtain rfl:A.bm s=g:=by simpa using hg'
  rw[UY];simp
 have g:=g1.trans g2;refine⟨⟨k2.of_eq fun q=>?_,h.ev.grow g,h.sl,h.nw,h.nt,h.nv,by simpa [St.bM] using h.n8,h.nc⟩,g⟩;have gt:∀ k,(D.bM s {t with cells:=(F,x)::t.cells}).ai.getD k none=if k=s then some {t with cells:=(F,x)::t.cells} else D.ai.getD k none:=fun k=>dB (dA ht) _ k
 have hb1:∀ k,k≠s->∀ j,(A.kE s F b).bx k j=A.bx k j:=fun k Y j=>bu (fun e=>Y e.1)
 by_cases hs:q.tx=some s
 . rw[iL _ _ hs,gt,aW rfl]
   unfold iI;rw[iL A _ hs,ht]
   cases q<;>simp[bW.tx] at hs<;>(have hs:=hs.symm;subst hs)
   . simp[gZ,fw,az.kE]
   . simp only[gZ,aW,EG _ _ _ _ _ _ hx'];rfl
   . rename_i j
     by_cases hj:j=F
     . subst hj;simp[gZ,bL.cell,az.kE]
     . have e1:(bW.cell s j=bW.map s)=False:=by simp
       have e2:(bW.cell s j=bW.cell s F)=False:=by simp[hj]
       have e3:((F,x)::t.cells).lookup j=t.cells.lookup j:=by rw[List.lookup_cons,beq_false_of_ne hj]
       simp only[gZ,Option.bind_some,bL.cell,e3,e1,e2,if_false,az.kE];simp[hj]
   . simp[gZ,az.kE]
   . simp[gZ,az.kE]
   . simp[gZ,az.kE]
 . have e3:q≠.map s:=by rintro rfl;exact hs rfl
   have e4:q≠.cell s F:=by rintro rfl;exact hs rfl
   rw[aT _ _ e3,aT _ _ e4,jG _ ht _ hs];exact mO (A:=A) (A':=A.kE s F b) ⟨rfl,rfl,rfl,rfl,rfl,rfl,rfl,rfl,rfl,rfl,rfl,rfl,rfl,rfl,rfl,rfl,rfl,fun _ _=>rfl,fun k Y=>funext fun j=>hb1 k Y j,fun _ _=>rfl,fun _ _=>rfl,fun _ _=>rfl,fun _ _=>rfl,fun _ _=>rfl⟩ D hs
end Go.Proofs.YthicolbbmjfkfaaGreat.Em
namespace Go.Proofs.YthicolbbmjfkfaaGreat.Em
open Go.ChangeShapes Go.WideShapes Go.ChangeAt Go.RowKit En
variable {A:az} {D:St} {w:World}
def uL (A:az) (w:World) (bF:St) (v:Value):Ending->World->Prop:=fun e E=>e=.returned v∧aF A bF E∧Grow A.L w A.L E
theorem EH (h:aF A D w) (i:Nat) (hi:i<D.words.length) (hc:D.count<4000000000000000000):
 zk 80 #[R A.ba 0,I i] w fun e E=>e=.returned (R A.bw i)∧E=w.setCell (J A.ba 1) (I ((D.count:Int)+1)):=by
 have c0:=h.arena 0 rfl;have c1:w.cell? (J A.ba 1)=zt (D.count:Int):=h.arena 1 rfl;have z1:=h.P7 1;generalize hn:D.words.length=n at*;have b1:(i:Int)<(n:Int):=by omega
 have b2:¬ (n:Int)<=(i:Int):=by omega
 have hadd:=run_call_add (P:=Tryz.prog) Tryz.func138 (by kernel_rfl) (by kernel_rfl) (by kernel_rfl) .i64 (by kernel_rfl) (y:=1) (s:=(D.count:Int)+1) c1 z1 (by simp[go_sem];rw[je];omega);clear h hc hn hi;go_enter Tryz.func80,Tryz.ntmps80;go_wp2;go_ret;exact⟨rfl,rfl⟩
theorem iN (h:aF A D w) (i:Nat) (hi:i<D.words.length) (hc:D.count<4000000000000000000):
 zk 42 #[R A.ba 0,I i] w (uL A w D.tick (zu (D.word i:Int))):=by
 obtain⟨h1,g1⟩:=h.tick;have c2:=h1.word (i:=i) hi;have hl:=run_call_load (P:=Tryz.prog) Tryz.func104 (by kernel_rfl) (by kernel_rfl) (by kernel_rfl) .u64 (by kernel_rfl) c2;have hat:=EH h i hi hc;have zi:=U h1;have aa:=U g1;clear h1 g1 h hi hc;have e1:D.tick.word i=D.word i:=rfl;rw[e1] at hl c2;clear e1;generalize D.word i=x at*;go_enter Tryz.func42,Tryz.ntmps42;go_wp2_with (first|(go_at_call 80;refine hat.mono ?_;rintro e E ⟨rfl,rfl⟩)|(go_at_call 81;go_in));go_ret;exact⟨rfl,zi.out,aa.out⟩
theorem gy (h:aF A D w) (i n:Nat) (hi:i<D.words.length) (hc:D.count<4000000000000000000):
 zk 47 #[R A.ba 0,I i,zu n] w (uL A w (D.put i n) (.tuple #[])):=by
 obtain⟨h1,g1⟩:=h.tick;obtain⟨h2,g2⟩:=h.put i n;have c2:=h1.word (i:=i) hi;have z2:=h1.Py i;have hl:=run_call_store (P:=Tryz.prog) Tryz.func106 (by kernel_rfl) (by kernel_rfl) (by kernel_rfl) (by kernel_rfl) (k:=.u64) (y:=(n:Int)) c2 z2;have hat:=EH h i hi hc;have zi:=U h2;have aa:=U g2;clear h1 g1 h2 g2 h hi hc;generalize (n:Int)=y at*;go_enter Tryz.func47,Tryz.ntmps47;go_wp2_with (first|(go_at_call 80;refine hat.mono ?_;rintro e E ⟨rfl,rfl⟩)|(go_at_call 83;go_in))
 go_end0
 go_wp2
 go_end0
 exact⟨rfl,zi.out,aa.out⟩
theorem nH (h:aF A D w) (i o n:Nat) (hi:i<D.words.length) (hc:D.count<4000000000000000000):
 zk 45 #[R A.ba 0,I i,zu o,zu n] w (uL A w (D.cB i o n) (.bool (D.word i==o))):=by
 obtain⟨h1,g1⟩:=h.tick;obtain⟨h2,g2⟩:=h.put i n;have c2:=h1.word (i:=i) hi;have z2:=h1.Py i;have e1:D.tick.word i=D.word i:=rfl;rw[e1] at c2;have hat:=EH h i hi hc
 by_cases hx:D.word i=o
 . have e2:D.cB i o n=D.put i n:=aW hx
   have e3:(D.word i==o)=true:=by simp[hx]
   rw[e2,e3];rw[hx] at c2;have hl:=run_call_cas_hit (P:=Tryz.prog) Tryz.func105 (by kernel_rfl) (by kernel_rfl) (by kernel_rfl) .u64 (by kernel_rfl) (y:=(n:Int)) c2 z2;have zi:=U h2;have aa:=U g2;clear h1 g1 h2 g2 h hi hc hx e1 e2 e3;generalize (n:Int)=y at*;generalize (o:Int)=z at*;go_enter Tryz.func45,Tryz.ntmps45;go_wp2_with (first|(go_at_call 80;refine hat.mono ?_;rintro e E ⟨rfl,rfl⟩)|(go_at_call 82;go_in));go_ret;exact⟨rfl,zi.out,aa.out⟩
 . have e2:D.cB i o n=D.tick:=bu hx
   have e3:(D.word i==o)=false:=by simp[hx]
   rw[e2,e3];have hl:=run_call_cas_miss (P:=Tryz.prog) Tryz.func105 (by kernel_rfl) (by kernel_rfl) (by kernel_rfl) .u64 (by kernel_rfl) (o:=(o:Int)) (y:=(n:Int)) c2 z2 (by omega);have zi:=U h1;have aa:=U g1;clear h1 g1 h2 g2 h hi hc e1 e2 e3;generalize (n:Int)=y at*;generalize (o:Int)=z at*;go_enter Tryz.func45,Tryz.ntmps45;go_wp2_with (first|(go_at_call 80;refine hat.mono ?_;rintro e E ⟨rfl,rfl⟩)|(go_at_call 82;go_in));go_ret;exact⟨rfl,zi.out,aa.out⟩
theorem jf (h:aF A D w) (hc:D.count<4000000000000000000):
 zk 71 #[R A.ba 0] w fun e E=>e=.returned (I (D.count:Int))∧w=E:=by
 have c1:w.cell? (J A.ba 1)=zt (D.count:Int):=h.arena 1 rfl;have hl:=run_call_load (P:=Tryz.prog) Tryz.func133 (by kernel_rfl) (by kernel_rfl) (by kernel_rfl) .i64 (by kernel_rfl) c1;clear h hc;go_enter Tryz.func71,Tryz.ntmps71;go_wp2;go_ret;exact⟨rfl,rfl⟩
theorem vS (h:aF A D w) (i:Nat) (hi:i<D.words.length):
 zk 58 #[R A.ba 0,I i] w fun e E=>e=.returned (zu (D.word i:Int))∧∃ n,E=w.drewN n:=by
 have c0:=h.arena 0 rfl;have c2:=h.word (i:=i) hi;have hl:=run_call_load (P:=Tryz.prog) Tryz.func104 (by kernel_rfl) (by kernel_rfl) (by kernel_rfl) .u64 (by kernel_rfl) c2;generalize hn:D.words.length=n at*;have b1:(i:Int)<(n:Int):=by omega
 have b2:¬ (n:Int)<=(i:Int):=by omega
 clear h hn hi;go_enter Tryz.func58,Tryz.ntmps58;go_wp2;go_ret;exact⟨rfl,0,rfl⟩
end Go.Proofs.YthicolbbmjfkfaaGreat.Em
