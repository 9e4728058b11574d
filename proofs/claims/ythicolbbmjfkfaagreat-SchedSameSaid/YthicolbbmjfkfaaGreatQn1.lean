import Derived.Test.YthicolbbmjfkfaaGreatQn0
import Derived.Test.YthicolbbmjfkfaaGreatProg
import Derived.WalkKit
import Derived.ProofKit
import Derived.Laws.AppendOwn
import Derived.Laws.NewBlocks
import Derived.Laws.CopyOwn
import Derived.Laws.OwnMore
import Derived.Deep.Quiet
import Derived.Deep.MidRow
set_option linter.unusedVariables false
set_option linter.unusedSimpArgs false
set_option maxRecDepth 100000
set_option maxHeartbeats 1600000
namespace Go.Proofs.YthicolbbmjfkfaaGreat.Em
open Go.ChangeShapes Go.WideShapes Go.ChangeAt Go.RowKit
inductive bU where
 |df|arena|words|bO|tags|free|values|aT|cut
 |fw (s:Nat)|map (s:Nat)|cell (s F:Nat)|keys (s:Nat)|reads (s:Nat)|aP (s:Nat)|call (s:Nat)|aO (s:Nat)|tmp
 deriving DecidableEq
abbrev dE:=Nat->Option bU
def kD (L:dE) (b:Nat) (r:bU):dE:=fun k=>if k=b then some r else L k
theorem kU (L:dE) (b:Nat) (r:bU):kD L b r b=some r:=aV rfl
theorem fF {L:dE} {b k:Nat} {r:bU} (h:k≠b):kD L b r k=L k:=aR h
structure Grow (L:dE) (w:World) (L':dE) (E:World):Prop where
 os:E.os=w.os
 tape:E.tape=w.tape
 output:E.output=w.output
 size:w.heap.size<=E.heap.size
 block:∀ b,b<w.heap.size->L b=none->E.heap[b]? =w.heap[b]?
 lab:∀ b,b<w.heap.size->L' b=L b
 keep:∀ b,b<w.heap.size->L b=some .tmp->E.heap[b]? =w.heap[b]?
theorem Grow.refl (L:dE) (w:World):Grow L w L w:=⟨rfl,rfl,rfl,zr _,fun _ _ _=>rfl,fun _ _=>rfl,fun _ _ _=>rfl⟩
theorem Grow.trans {L L1 L2:dE} {w Y w2:World} (h:Grow L w L1 Y) (k:Grow L1 Y L2 w2):Grow L w L2 w2:=
 ⟨k.os.trans h.os, k.tape.trans h.tape, k.output.trans h.output, gy h.size k.size,
   fun b hb hl=>(k.block b (sG hb h.size) (by rw[h.lab b hb];exact hl)).trans (h.block b hb hl),
   fun b hb=>(k.lab b (sG hb h.size)).trans (h.lab b hb),
   fun b hb hl=>(k.keep b (sG hb h.size) (by rw[h.lab b hb];exact hl)).trans (h.keep b hb hl)⟩
theorem Grow.alloc (L:dE) (w:World) (o:Obj):Grow L w L (w.alloc o):=⟨rfl,rfl,rfl,by simp,fun b hb _=>Below.heap_alloc w o b hb,fun _ _=>rfl,fun b hb _=>Below.heap_alloc w o b hb⟩
theorem Grow.drew (L:dE) (w:World):Grow L w L w.drew:=⟨rfl,rfl,rfl,zr _,fun _ _ _=>rfl,fun _ _=>rfl,fun _ _ _=>rfl⟩
theorem zG (L:dE) (w:World):Hid (Grow L w L w.drew):=Grow.drew L w
theorem Grow.drewN (L:dE) (w:World) (n:Nat):Grow L w L (w.drewN n):=⟨rfl,rfl,rfl,zr _,fun _ _ _=>rfl,fun _ _=>rfl,fun _ _ _=>rfl⟩
theorem Grow.setCell {L:dE} {w:World} {a:Addr} (h:w.heap.size<=a.block∨(L a.block≠none∧L a.block≠some .tmp)) (v:Value):Grow L w L (w.setCell a v):=
 ⟨rfl,rfl,rfl,by simp[World.setCell],fun b hb hl=>Below.heap_setCell _ _ _ _ (by rintro rfl;rcases h with h|h;exact absurd hb (by omega);exact h.1 hl),fun _ _=>rfl,fun b hb hl=>Below.heap_setCell _ _ _ _ (by rintro rfl;rcases h with h|h;exact absurd hb (by omega);exact h.2 hl)⟩
theorem Grow.kD {L L':dE} {w E:World} (h:Grow L w L' E) {b:Nat} (hb:w.heap.size<=b) (r:bU):Grow L w (kD L' b r) E:=
 ⟨h.os,h.tape,h.output,h.size,h.block,fun k Z=>(fF (by omega)).trans (h.lab k Z),h.keep⟩
theorem Grow.below {L:dE} {w E:World} (h:Below w.heap.size w E):Grow L w L E:=⟨h.os,h.tape,h.output,h.size,fun b hb _=>h.block b hb,fun _ _=>rfl,fun b hb _=>h.block b hb⟩
theorem Grow.grown {L:dE} {w E:World} {row:Option Nat} (h:w.grownBy E row) (hr:∀ g,row=some g->L g≠none∧L g≠some .tmp):Grow L w L E:=
 ⟨h.os,h.tape,h.output,h.size,fun b hb hl=>h.block b hb (fun e=>(hr b e.symm).1 hl),fun _ _=>rfl,fun b hb hl=>h.block b hb (fun e=>(hr b e.symm).2 hl)⟩
def Fix (L:dE) (w:World) (b:Nat) (o:Obj):Prop:=L b=none∧w.heap[b]? =some o
theorem fA {w:World} {g:Nat} {o:Obj} (h:w.heap[g]? =some o):g<w.heap.size:=(Array.getElem?_eq_some_iff.1 h).1
theorem Fix.grow {L L':dE} {w E:World} {b:Nat} {o:Obj} (h:Fix L w b o) (g:Grow L w L' E):Fix L' E b o:=
 ⟨(g.lab b (fA h.2)).trans h.1,(g.block b (fA h.2) h.1).trans h.2⟩
theorem Fix.alloc {L:dE} {w:World} {o:Obj} (h:L w.heap.size=none):Fix L (w.alloc o) w.heap.size o:=⟨h,heap_alloc_new w o⟩
def aN (L:dE) (w:World) (b:Nat) (v:Value):Prop:=∃ T,Fix L w b (.cells #[v] T)
theorem aN.grow {L L':dE} {w E:World} {b:Nat} {v:Value} (h:aN L w b v) (g:Grow L w L' E):aN L' E b v:=let ⟨T,h⟩:=h;⟨T,h.grow g⟩
theorem aN.cell {L:dE} {w:World} {b:Nat} {v:Value} (h:aN L w b v):w.cell? (J b 0)=some v:=by
 obtain⟨T,h1,h2⟩:=h;rw[cell_of_row w b 0 _ _ _ h2];rfl
inductive Entry where
 |none
 |obj (b:Nat) (cs:List Value) (T:TypeId)
 |own (v:Value) (e:TypeId) (size n:Nat) (xs:List Value)
 |map (b:Nat) (es:List MapEntry) (clock:Nat)
def Entry.Holds (L:dE) (w:World) (r:bU):Entry->Prop
 |.none=>True
 |.obj b cs T=>L b=some r∧w.heap[b]? =some (.cells cs.toArray T)
 |.own v e size n xs=>w.ownsRow 0 e size v n xs∧∀ g,v.ownBlock=some g->L g=some r
 |.map b es clock=>L b=some r∧w.heap[b]? =some (.map es.toArray clock)
theorem oC {w E:World} {base:Nat} {e:TypeId} {size:Nat} {v:Value} {n:Nat} {xs:List Value} (h:w.ownsRow base e size v n xs) (hs:∀ g,v.ownBlock=some g->E.heap[g]? =w.heap[g]?):E.ownsRow base e size v n xs:=by
 refine⟨h.1,?_⟩
 rcases h.2 with h0|⟨g,cap,cur,rfl,h2,h3,h4⟩
 . exact .inl h0
 . exact .inr ⟨g,cap,cur,rfl,h2,by rw[hs g rfl];exact h3,h4⟩
theorem Entry.Holds.frame {L L':dE} {w E:World} {r:bU} {e:Entry} (h:e.Holds L w r) (hs:∀ b,b<w.heap.size->L b=some r->E.heap[b]? =w.heap[b]?) (hl:∀ b,b<w.heap.size->L' b=L b):e.Holds L' E r:=by
 cases e with
 |none=>trivial
 |obj b cs T=>exact⟨(hl b (fA h.2)).trans h.1,(hs b (fA h.2) h.1).trans h.2⟩
 |map b es c=>exact⟨(hl b (fA h.2)).trans h.1,(hs b (fA h.2) h.1).trans h.2⟩
 |own v e size n xs=>
  exact⟨oC h.1 fun g hg=>hs g (h.1.lt g hg).2 (h.2 g hg),fun g hg=>(hl g (h.1.lt g hg).2).trans (h.2 g hg)⟩
structure Holds (L:dE) (w:World) (m:bU->Entry):Prop where
 all:∀ r,(m r).Holds L w r
 fresh:∀ b,w.heap.size<=b->L b=none
theorem Holds.grow {L L':dE} {w E:World} {m:bU->Entry} (h:Holds L w m) (hs:∀ b r,b<w.heap.size->L b=some r->E.heap[b]? =w.heap[b]?) (hl:∀ b,b<w.heap.size->L' b=L b) (hf:∀ b,E.heap.size<=b->L' b=none):Holds L' E m:=
 ⟨fun r=>(h.all r).frame (fun b hb hr=>hs b r hb hr) hl,hf⟩
theorem Holds.below {L:dE} {w E:World} {m:bU->Entry} (h:Holds L w m) (hb:Below w.heap.size w E):Holds L E m:=
 h.grow (fun b r hl _=>hb.block b hl) (fun _ _=>rfl) (fun b hl=>h.fresh b (gy hb.size hl))
theorem Holds.upd {L L':dE} {w E:World} {m m':bU->Entry} (h:Holds L w m) (r:bU) (hr:(m' r).Holds L' E r) (hm:∀ q,q≠r->m' q=m q)
 (hs:∀ b q,b<w.heap.size->L b=some q->q≠r->E.heap[b]? =w.heap[b]?) (hl:∀ b,b<w.heap.size->L' b=L b) (hf:∀ b,E.heap.size<=b->L' b=none):Holds L' E m':=by
 refine⟨fun q=>?_,hf⟩
 by_cases hq:q=r
 . subst hq;exact hr
 . rw[hm q hq]
   exact (h.all q).frame (fun b hb he=>hs b q hb he hq) hl
theorem Holds.set {L:dE} {w:World} {m m':bU->Entry} (h:Holds L w m) (r:bU) {b:Nat} {cs:List Value} {T:TypeId} (he:m r=.obj b cs T) (i:Nat) (v:Value) (he':m' r=.obj b (cs.set i v) T) (hm:∀ q,q≠r->m' q=m q):
 Holds L (w.setCell (J b i) v) m':=by
 have k:=h.all r;rw[he] at k;refine h.upd r ?_ hm (fun c q hc hl hq=>Below.heap_setCell _ _ _ _ ?_) (fun _ _=>rfl) (fun c hc=>h.fresh c (by simpa [World.setCell] using hc))
 . rw[he']
   refine⟨k.1,?_⟩;have:=k.2;simp only[World.setCell,Array.getElem?_modify,this];simp
 . rintro rfl
   rw[k.1] at hl;exact hq (zj hl).symm
theorem Holds.cell {L:dE} {w:World} {m:bU->Entry} (h:Holds L w m) {r:bU} {b:Nat} {cs:List Value} {T:TypeId} (he:m r=.obj b cs T) (i:Nat) {v:Value} (hv:cs[i]? =some v):w.cell? (J b i)=some v:=by
 have k:=h.all r;rw[he] at k;rw[cell_of_row w b i _ _ _ k.2]
 simpa using hv
theorem Holds.frozen {L:dE} {w:World} {m:bU->Entry} (h:Holds L w m) {r:bU} {b:Nat} {cs:List Value} {T:TypeId} (he:m r=.obj b cs T) (i:Nat):w.frozen? (J b i)=false:=by
 have k:=h.all r;rw[he] at k;simp[World.frozen?,k.2]
theorem Holds.lab {L:dE} {w:World} {m:bU->Entry} (h:Holds L w m) {r:bU} {b:Nat} {cs:List Value} {T:TypeId} (he:m r=.obj b cs T):L b=some r:=by
 have k:=h.all r;rw[he] at k;exact k.1
theorem Holds.di {L:dE} {w:World} {m:bU->Entry} (h:Holds L w m) {r:bU} {b:Nat} {cs:List Value} {T:TypeId} (he:m r=.obj b cs T) (i:Nat) (v:Value) (hr:r≠.tmp:=by simp):Grow L w L (w.setCell (J b i) v):=
 Grow.setCell (.inr (by show L b≠none∧L b≠some .tmp;rw[h.lab he];simpa using hr)) v
end Go.Proofs.YthicolbbmjfkfaaGreat.Em
namespace Go.Proofs.YthicolbbmjfkfaaGreat.Em
open Go.ChangeShapes Go.WideShapes Go.ChangeAt Go.RowKit
def iF (m:bU->Entry) (r:bU) (e:Entry):bU->Entry:=fun q=>if q=r then e else m q
theorem gF (m:bU->Entry) (r:bU) (e:Entry):iF m r e r=e:=aV rfl
theorem bQ (m:bU->Entry) {r q:bU} (e:Entry) (h:q≠r):iF m r e q=m q:=aR h
theorem Holds.put {L:dE} {w:World} {m:bU->Entry} (h:Holds L w m) (r:bU) {b:Nat} {cs:List Value} {T:TypeId} (he:m r=.obj b cs T) (i:Nat) (v:Value):
 Holds L (w.setCell (J b i) v) (iF m r (.obj b (cs.set i v) T)):=h.set r he i v (gF _ _ _) fun q hq=>bQ m _ hq
theorem Holds.Nw {L:dE} {w:World} {m:bU->Entry} (h:Holds L w m) {a:Addr} (ha:L a.block=none) (v:Value):Holds L (w.setCell a v) m:=
 h.grow (fun b r hb hl=>Below.heap_setCell _ _ _ _ (by rintro rfl;rw[ha] at hl;cases hl)) (fun _ _=>rfl) (fun b hb=>h.fresh b (by simpa [World.setCell] using hb))
theorem Holds.Cy {L:dE} {w:World} {m:bU->Entry} (h:Holds L w m) (r:bU) {b:Nat} (hb:L b=none) (e:Entry) (he:e.Holds (kD L b r) w r) (hlt:b<w.heap.size):Holds (kD L b r) w (iF m r e):=by
 refine⟨fun q=>?_,fun c hc=>?_⟩
 . by_cases hq:q=r
   . subst hq;rw[gF];exact he
   . rw[bQ m _ hq]
     have k:=h.all q
     cases hm:m q with
     |none=>trivial
     |obj c cs T=>rw[hm] at k;exact⟨by rw[fF (by rintro rfl;have k1:=k.1;rw[hb] at k1;cases k1)];exact k.1,k.2⟩
     |map c cs T=>rw[hm] at k;exact⟨by rw[fF (by rintro rfl;have k1:=k.1;rw[hb] at k1;cases k1)];exact k.1,k.2⟩
     |own v e size n xs=>
      rw[hm] at k;refine⟨k.1,fun g hg=>?_⟩;have:=k.2 g hg;rw[fF (by rintro rfl;rw[hb] at this;cases this)];exact this
 . rw[fF (by omega)]
   exact h.fresh c hc
def wN (L:dE) (v:Value) (r:bU):dE:=fun k=>if v.ownBlock=some k then some r else L k
theorem Holds.grown {L:dE} {w E:World} {m:bU->Entry} (h:Holds L w m) (r:bU) {v v':Value} {e:TypeId} {size n n':Nat} {xs xs':List Value} (he:m r=.own v e size n xs)
 (hg:w.grownBy E v.ownBlock) (ho:E.ownsRow 0 e size v' n' xs') (hw:v'.ownBlock=v.ownBlock∨∀ g,v'.ownBlock=some g->w.heap.size<=g) (hrt:r≠.tmp:=by simp):
 Holds (wN L v' r) E (iF m r (.own v' e size n' xs'))∧Grow L w (wN L v' r) E:=by
 have k:=h.all r;rw[he] at k;have hlab:∀ b,b<w.heap.size->wN L v' r b=L b:=by
  intro b hb;unfold wN
  split
  . rename_i hv
    rcases hw with hw|hw
    . rw[hw] at hv;exact (k.2 b hv).symm
    . exact absurd (hw b hv) (by omega)
  . rfl
 refine⟨h.upd r ?_ (fun q hq=>bQ m _ hq) (fun b q hb hl hq=>hg.block b hb ?_) hlab (fun b hb=>?_),⟨hg.os,hg.tape,hg.output,hg.size,fun b hb hl=>hg.block b hb ?_,hlab,fun b hb hl=>hg.block b hb ?_⟩⟩
 . rw[gF]
   exact⟨ho,fun g hg=>aV hg⟩
 . intro e2
   rw[k.2 b e2.symm] at hl;exact hq (zj hl).symm
 . unfold wN
   rw[aR]
   . exact h.fresh b (gy hg.size hb)
   . intro e2
     have:=(ho.lt b e2).2;omega
 . intro e2
   rw[k.2 b e2.symm] at hl
   cases hl
 . intro e2
   rw[k.2 b e2.symm] at hl;exact hrt (zj hl)
theorem Holds.shrink {L:dE} {w:World} {m:bU->Entry} (h:Holds L w m) (r:bU) {v v':Value} {e:TypeId} {size n n':Nat} {xs xs':List Value} (he:m r=.own v e size n xs)
 (ho:w.ownsRow 0 e size v' n' xs') (hv:v'.ownBlock=v.ownBlock∨v'.ownBlock=none):Holds L w (iF m r (.own v' e size n' xs')):=by
 have k:=h.all r;rw[he] at k;refine h.upd r ?_ (fun q hq=>bQ m _ hq) (fun b q hb hl hq=>rfl) (fun _ _=>rfl) h.fresh;rw[gF];refine⟨ho,fun g hg=>?_⟩
 rcases hv with hv|hv
 . exact k.2 g (hv ▸ hg)
 . rw[hv] at hg;cases hg
def dS (L:dE) (w:World) (size:Nat) (v:Value) (xs:List Value):Prop:=
 ∃ a n cap,v=.slice a n cap∧xs.length=n*size∧n<=cap∧cap<=maxLen∧(n=0∨∃ g off,a=za g off∧L g=none∧g<w.heap.size∧∀ j,j<n*size->w.cell? (J g (off+j))=xs[j]?)
theorem dS.nil (L:dE) (w:World) (size:Nat):dS L w size (.slice none 0 0) []:=⟨none,0,0,rfl,by simp,by omega,by unfold maxLen;omega,.inl rfl⟩
theorem dS.grow {L L':dE} {w E:World} {size:Nat} {v:Value} {xs:List Value} (h:dS L w size v xs) (g:Grow L w L' E):dS L' E size v xs:=by
 obtain⟨a,n,cap,h1,h2,h3,h4,h5⟩:=h;refine⟨a,n,cap,h1,h2,h3,h4,?_⟩
 rcases h5 with h5|⟨b,off,e1,e2,e3,e4⟩
 . exact .inl h5
 . refine .inr ⟨b,off,e1,(g.lab b e3).trans e2,sG e3 g.size,fun j hj=>?_⟩
   rw[World.cell?_of_block (w:=w) (a:=(J b (off+j))) (g.block b e3 e2)];exact e4 j hj
end Go.Proofs.YthicolbbmjfkfaaGreat.Em
namespace Go.Proofs.YthicolbbmjfkfaaGreat.En
structure Op where
 kind:Nat
 F:Nat
 hi:Nat
 value:Nat
 deriving Repr,DecidableEq,Inhabited
structure oZ where
 e:Nat:=0
 value:Nat:=0
 aO:List (Nat×Nat):=[]
 over:Nat:=0
 aQ:Nat:=0
 deriving Repr,DecidableEq,Inhabited
structure Ev where
 kind:Nat
 t:Nat
 n:Nat:=0
 op:Op:=⟨0,0,0,0⟩
 res:oZ:={}
 deriving Repr,DecidableEq,Inhabited
structure kP where
 own:Nat
 old:Nat
 there:Bool
 deriving Repr,DecidableEq,Inhabited
structure bL where
 id:Nat
 az:Nat
 aJ:Nat
 aA:Nat
 ops:Nat
 keys:List Nat
 cells:List (Nat×kP)
 reads:List (Nat×Nat×Bool)
 aP:List Nat
 over:Bool
 deriving Repr,DecidableEq,Inhabited
inductive Qy where
 |get
 |scan (F:Nat)
 |change
 |judge (i G:Nat)
 deriving Repr,DecidableEq,Inhabited
structure dJ where
 F:Nat
 at_:Nat
 thn:Qy
 deriving Repr,DecidableEq,Inhabited
structure zy where
 at_:Nat
 old:Nat
 new:Nat
 deriving Repr,DecidableEq,Inhabited
inductive K where
 |fin (r:oZ)
 |start (h:dJ)
 |visit (h:dJ) (G:Nat)
 |older (h:dJ) (G:Nat)
 |maker (h:dJ) (G id:Nat)
 |ended (h:dJ) (G kV:Nat)
 |gW (h:dJ) (G kV id:Nat)
 |seen (h:dJ) (G kV:Nat)
 |again (aA:Nat)
 |own (G:Nat)
 |ib (G w id:Nat)
 |claim (G w:Nat)
 |fresh (G:Nat)
 |next (G head at_:Nat)
 |free (G head at_:Nat)
 |dM (G head at_ id:Nat)
 |fB (x:Bool) (G head:Nat)
 |dZ (x:Bool) (G head:Nat)
 |push (G head:Nat)
 |dL (G head:Nat)
 |over (G:Nat)
 |iq (G head:Nat)
 |dQ (G head:Nat)
 |draw
 |ed (w now:Nat)
 |turn (w now:Nat)
 |dR
 |wait (i:Nat)
 |turns (l:List zy) (r:oZ)
 |cZ
 |abort (e aQ:Nat)
 deriving Repr,DecidableEq,Inhabited
structure dN where
 op:Op
 k:Option K
 r:oZ
 waits:Bool
 over:Bool
 seq:Nat
 deriving Repr,DecidableEq,Inhabited
inductive S where
 |live (s:Nat)
 |head (F:Nat)
 |visit (F ak G:Nat)
 |maker (F ak G id:Nat)
 |dD (F ak G aJ:Nat)
 |on (F G:Nat)
 |unlink (F ak G:Nat)
 |cut (F ak G next:Nat)
 |now
 deriving Repr,DecidableEq,Inhabited
structure St where
 aF:Nat
 limit:Nat
 words:List Nat
 count:Nat
 tags:List (Nat×Bool)
 free:List Nat
 ja:Nat
 listed:Bool
 values:List (Nat×Nat)
 aj:List (Option bL)
 calls:List (Option dN)
 aB:Nat
 seq:Nat
 aI:Nat
 aT:List Ev
 sw:Option S
 low:Nat
 cut:List (Nat×Nat)
 cuts:Nat
 deriving Repr,DecidableEq,Inhabited
def ever:Nat:=2305843009213693952
def oo:Nat:=4611686018427387904
def tm:Nat:=1099511627776
def rd (w:Nat):Nat×Nat:=
 if w<=tm then (1,w) else if w=ever then (3,0) else if oo<w∧w<=oo+65535 then (2,w - oo) else (0,0)
def ag (G:Nat):Nat:=G % 131072 - 1
def af (G w:Nat):Nat:=73+ag G*3+w
def St.place (D:St) (id:Nat):Nat:=73+D.aF*3+id
def pack (state aA:Nat):Nat:=aA*8+state
def bz (w:Nat):Nat:=w % 8
def gX (w:Nat):Nat:=w / 8
def aW (t id:Nat):Nat:=t*65536+id
def ai (w:Nat):Nat:=w / 65536
def aZ (w:Nat):Nat:=w % 65536
def St.word (D:St) (i:Nat):Nat:=D.words.getD i 0
def St.tick (D:St):St:={D with count:=D.count+1}
def St.put (D:St) (i v:Nat):St:={D with words:=D.words.set i v,count:=D.count+1}
def St.cB (D:St) (i old new:Nat):St:=if D.word i=old then D.put i new else D.tick
def St.t (D:St) (s:Nat):bL:=((D.aj.getD s none).getD default)
def St.c (D:St) (s:Nat):dN:=((D.calls.getD s none).getD default)
def St.bK (D:St) (s:Nat) (t:bL):St:={D with aj:=D.aj.set s (some t)}
def St.aK (D:St) (s:Nat) (c:dN):St:={D with calls:=D.calls.set s (some c)}
def St.event (D:St) (e:Ev):St:={D with aT:=D.aT++[e]}
def St.dx (D:St) (w:Nat):St:=D.cB (D.place (aZ w)) (pack 1 0) (pack 2 (ai w))
def St.bind (D:St) (s tq:Nat):St:=
 if tq∈(D.t s).aP then D
 else (D.bK s {D.t s with aP:=(D.t s).aP++[tq]}).event {kind:=4,t:=(D.t s).id,n:=tq}
def St.read (D:St) (s F G:Nat) (got:Bool):St:=D.bK s {D.t s with reads:=(D.t s).reads++[(F,G,got)]}
def bL.cell (t:bL) (F:Nat):Option kP:=t.cells.lookup F
def St.valueOf (D:St) (G:Nat):Nat:=(D.values.getD (ag G) (0,0)).2
def St.tell (D:St) (s F n:Nat):St:=D.aK s {D.c s with r:={(D.c s).r with aO:=(D.c s).r.aO++[(F,n)]}}
def iE (s:Nat):Nat->St->Nat->St×K
 |0,D,F=>(D,.fin (D.c s).r)
 |n+1,D,F=>
  if (D.c s).op.hi<F then (D,.fin (D.c s).r) else
  match (D.t s).cell F with
  |some x=>iE s n (if x.there then D.tell s F (D.valueOf x.own) else D) (F+1)
  |none=>(D,.start ⟨F,(D.t s).aJ,.scan F⟩)
def St.scan (D:St) (s F:Nat):St×K:=iE s ((D.c s).op.hi+1 - F) D F
def bL.needs (t:bL) (r:Nat×Nat×Bool):Bool:=(t.cell r.1).isNone&&(t.az==3||(t.az==2&&r.2.2))
def bL.need (t:bL):Nat->Nat->Nat
 |0,i=>i
 |n+1,i=>if i<t.reads.length∧t.needs (t.reads.getD i (0,0,false))=false then t.need n (i+1) else i
def jJ (t:bL) (i:Nat):K:=if i=t.aP.length then .cZ else .wait i
def dG (t:bL) (i:Nat):K:=
 let i:=t.need (t.reads.length - i) i
 if i=t.reads.length then jJ t 0 else .start ⟨(t.reads.getD i (0,0,false)).1,t.aA,.judge i (t.reads.getD i (0,0,false)).2.1⟩
/- The pool. -/
def St.list (D:St):St:=if D.listed then D else {D with listed:=true,free:=D.free++(List.range D.aF).reverse}
def rO (i tag:Nat):Nat:=tag*131072+(i+1)
def St.jH (D:St) (i:Nat):Nat:=rO i (D.tags.getD i (0,false)).1
def St.take (D:St):St×Option Nat:=
 let D:=D.list
 match D.free.getLast? with
 |none=>(D,none)
 |some i=>({D with free:=D.free.dropLast,tags:=D.tags.set i ((D.tags.getD i (0,false)).1,true)},some (D.jH i))
def St.kF (D:St) (G:Nat):Bool:=1<=G % 131072&&G % 131072<=D.aF&&(D.tags.getD (ag G) (0,false)).2&&D.jH (ag G)==G
def St.give (D:St) (G:Nat):St:=
 if D.kF G then
  let i:=ag G
  let tag:=(D.tags.getD i (0,false)).1
  if tag=65535 then {D with tags:=D.tags.set i (tag,false),ja:=D.ja+1}
  else {D with tags:=D.tags.set i (tag+1,false),free:=D.free++[i]}
 else D
def St.slot (D:St) (s:Nat) (x:Bool) (G head:Nat):St×K:=
 match (if G=0 then D.take else (D,some G)) with
 |(D,none)=>(D,.abort 14 5)
 |(D,some G)=>({D with values:=D.values.set (ag G) ((D.c s).op.F,(D.c s).op.value)},.fB x G head)
def St.jd (D:St) (s G head at_:Nat):St×K:=if at_=0 then D.slot s false G head else (D,.free G head at_)
def St.lost (D:St) (G:Nat):St×K:=(if G≠0 then D.give G else D,.abort 14 2)
def mine (t:bL):Nat:=oo+t.id
def St.bS (D:St) (s F:Nat) (x:kP):St:=D.bK s {D.t s with cells:=(F,x)::(D.t s).cells,keys:=(D.t s).keys++[F]}
def upd (l:List (Nat×kP)) (F:Nat) (x:kP):List (Nat×kP):=l.map fun p=>if p.1=F then (F,x) else p
def St.gu (D:St) (s F:Nat) (x:kP):St:=D.bK s {D.t s with cells:=upd (D.t s).cells F x}
def St.x (D:St) (s F:Nat):kP:=((D.t s).cell F).getD default
def St.thn (D:St) (s:Nat) (h:dJ) (G:Nat):St×K:=
 match h.thn with
 |.get=>
  let D:=D.read s h.F G (G !=0)
  if G=0 then (D,.fin {e:=11}) else (D,.fin {value:=D.valueOf G})
 |.scan F=>
  let D:=D.read s F G false
  (if G=0 then D else D.tell s F (D.valueOf G)).scan s (F+1)
 |.change=>
  let o:=(D.c s).op
  if G≠0∧o.kind=2 then (D.read s o.F G false,.fin {e:=12})
  else if G=0∧o.kind≠2 then (D.read s o.F G false,.fin {e:=11})
  else if G=0 then (D,.fresh 0)
  else (D,.own G)
 |.judge i l=>
  if G≠l then (D,.abort 14 3) else (D,dG (D.t s) (i+1))
def St.visit (D:St) (s:Nat) (h:dJ) (G:Nat):St×K:=if G=0 then D.thn s h 0 else (D,.visit h G)
def St.seen (D:St) (s:Nat) (h:dJ) (G kV:Nat):St×K:=if kV=0 then D.thn s h G else (D,.seen h G kV)
def St.kG (D:St) (s:Nat) (h:dJ) (G w:Nat):K:=
 if (rd w).1=1∧(rd w).2<=h.at_ then .ended h G 0
 else if (rd w).1≠2∨(rd w).2=(D.t s).id then .older h G
 else .maker h G (rd w).2
def St.dH (D:St) (s:Nat) (e:Ev):St:=if (D.t s).over then D else (D.bK s {D.t s with over:=true}).event e
def St.finish (D:St) (s:Nat) (r:oZ):St:=D.aK s {D.c s with r:=r,over:=true}
def eY (D:St) (t:bL):List zy:=
 t.keys.flatMap fun F=>
  let x:=(t.cell F).getD default
  (if x.own≠0 then ⟨af x.own 0,0,t.aA⟩::(if x.there then [] else [⟨af x.own 1,0,t.aA⟩]) else [])
  ++(if x.old≠0 then [⟨af x.old 1,0,t.aA⟩] else [])
def fV (D:St) (t:bL):List zy:=
 t.keys.flatMap fun F=>
  let x:=(t.cell F).getD default
  if x.old≠0 then [⟨af x.old 1,mine t,ever⟩] else []
def St.run (D:St) (s:Nat):K->St×Option K
 |.fin r=>(D.finish s r,none)
 |.start h=>let w:=D.word (9+h.F);let (D,k):=D.tick.visit s h w;(D,some k)
 |.visit h G=>(D.tick,some (D.kG s h G (D.word (af G 0))))
 |.maker h G id=>
  let w:=D.word (D.place id);let D:=D.tick
  if gX w=0∨h.at_<gX w∨bz w=4 then (D,some (.older h G))
  else if bz w=2 then (D,some (.ended h G id))
  else (D,some (.ended h G 0))
 |.older h G=>let w:=D.word (af G 2);let (D,k):=D.tick.visit s h w;(D,some k)
 |.ended h G kV=>
  let w:=D.word (af G 1);let D:=D.tick
  let r:=rd w
  if r.1=1∧r.2<=h.at_ then (D,some (.older h G))
  else if r.1≠2∨r.2=(D.t s).id then let (D,k):=D.seen s h G kV;(D,some k)
  else (D,some (.gW h G kV r.2))
 |.gW h G kV id=>
  let w:=D.word (D.place id);let D:=D.tick
  if gX w=0∨h.at_<gX w∨bz w=4 then let (D,k):=D.seen s h G kV;(D,some k)
  else if bz w=2 then (D.bind s id,some (.older h G))
  else (D,some (.older h G))
 |.seen h G kV=>
  let w:=D.word (D.place kV);let D:=D.tick
  if bz w=4 then (D,some (.start h))
  else let (D,k):=(if bz w=2 then D.bind s kV else D).thn s h G;(D,some k)
 |.again aA=>
  let F:=(D.c s).op.F
  let x:=D.x s F
  let D:=D.put (af x.own 1) aA
  let there:=(D.c s).op.kind !=4
  let D:=D.gu s F {x with there:=there}
  let D:=if there then {D with values:=D.values.set (ag x.own) ((D.values.getD (ag x.own) (0,0)).1,(D.c s).op.value)} else D
  (D,some (.fin {}))
 |.own G=>
  let w:=D.word (af G 1);let D:=D.tick
  let r:=rd w
  if r.1=3 then (D,some (.claim G w))
  else if r.1=2 then (D,some (.ib G w r.2))
  else (D,some (.abort 14 2))
 |.ib G w id=>
  let v:=D.word (D.place id);let D:=D.tick
  if bz v≠4 then (D,some (.abort 14 2)) else (D,some (.claim G w))
 |.claim G w=>
  let v:=D.word (af G 1)
  let D:=D.cB (af G 1) w (mine (D.t s))
  if v≠w then (D,some (.own G))
  else
   let D:=D.bS s (D.c s).op.F ⟨0,G,false⟩
   if (D.c s).op.kind=4 then (D,some (.fin {}))
   else let (D,k):=D.slot s true 0 0;(D,some k)
 |.fresh G=>
  let head:=D.word (9+(D.c s).op.F)
  let (D,k):=D.tick.jd s G head head;(D,some k)
 |.next G head at_=>
  let w:=D.word (af at_ 2)
  let (D,k):=D.tick.jd s G head w;(D,some k)
 |.free G head at_=>
  let w:=D.word (af at_ 0);let D:=D.tick
  let r:=rd w
  if r.1=1∧r.2<=(D.t s).aJ then (D,some (.next G head at_))
  else if r.1≠2 then let (D,k):=D.lost G;(D,some k)
  else (D,some (.dM G head at_ r.2))
 |.dM G head at_ id=>
  let w:=D.word (D.place id);let D:=D.tick
  if bz w=4∨(0<gX w∧gX w<=(D.t s).aJ) then (D,some (.next G head at_))
  else let (D,k):=D.lost G;(D,some k)
 |.fB x G head=>(D.put (af G 0) (mine (D.t s)),some (.dZ x G head))
 |.dZ x G head=>
  let D:=D.put (af G 1) ever
  (D,some (if x then .over G else .push G head))
 |.push G head=>(D.put (af G 2) head,some (.dL G head))
 |.dL G head=>
  let F:=(D.c s).op.F
  let v:=D.word (9+F)
  let D:=D.cB (9+F) head G
  if v≠head then (D,some (.fresh G))
  else (D.bS s F ⟨G,0,true⟩,some (.fin {}))
 |.over G=>let head:=D.word (9+(D.c s).op.F);(D.tick,some (.iq G head))
 |.iq G head=>(D.put (af G 2) head,some (.dQ G head))
 |.dQ G head=>
  let F:=(D.c s).op.F
  let v:=D.word (9+F)
  let D:=D.cB (9+F) head G
  if v≠head then (D,some (.over G))
  else (D.gu s F {D.x s F with own:=G,there:=true},some (.fin {}))
 |.draw=>
  let w:=D.word 0;let D:=D.tick
  if D.limit<=ai w then (D,some (.abort 14 6))
  else if aZ w=0 then (D,some (.turn w (ai w)))
  else (D,some (.ed w (ai w)))
 |.ed w now=>(D.dx w,some (.turn w now))
 |.turn w now=>
  let v:=D.word 0
  let D:=D.cB 0 w (aW (now+1) (D.t s).id)
  if v≠w then (D,some .draw)
  else
   let D:=(D.bK s {D.t s with aA:=now+1}).event {kind:=3,t:=(D.t s).id,n:=now+1}
   (D,some .dR)
 |.dR=>
  let D:=D.dx (aW (D.t s).aA (D.t s).id)
  (D,some (dG (D.t s) 0))
 |.wait i=>
  let v:=D.word (D.place ((D.t s).aP.getD i 0));let D:=D.tick
  if bz v=3 then (D,some (jJ (D.t s) (i+1)))
  else if bz v=4 then (D,some (.abort 14 4))
  else (D.aK s {D.c s with waits:=true},some (.wait i))
 |.cZ=>
  let t:=D.t s
  let D:=(D.put (D.place t.id) (pack 3 t.aA)).dH s {kind:=5,t:=t.id}
  (D,some (.turns (eY D t) {over:=3}))
 |.abort e aQ=>
  let t:=D.t s
  let D:=(D.put (D.place t.id) (pack 4 t.aA)).dH s {kind:=6,t:=t.id,res:={aQ:=aQ}}
  (D,some (.turns (fV D t) {e:=e,over:=4,aQ:=aQ}))
 |.turns [] r=>((D.put (1+s) 0).finish s r,none)
 |.turns (x::l) r=>(if x.old=0 then D.put x.at_ x.new else D.cB x.at_ x.old x.new,some (.turns l r))
def p9 (o:Op):Bool:=
 match o.kind with
 |1=>o.F<=63&&o.hi==0&&o.value==0
 |4=>o.F<=63&&o.hi==0&&o.value==0
 |2=>o.F<=63&&o.hi==0&&o.value<=65535
 |3=>o.F<=63&&o.hi==0&&o.value<=65535
 |5=>o.F<=63&&o.F<=o.hi&&o.hi<=63&&o.value==0
 |6=>o.F==0&&o.hi==0&&o.value==0
 |7=>o.F==0&&o.hi==0&&o.value==0
 |_=>false
def iB (o:Op):Bool:=o.kind==6||o.kind==7
def new (aF limit:Nat):St:=
 {aF:=aF,limit:=limit,words:=List.replicate (73+aF*3+2000+1) 0,count:=0,tags:=List.replicate aF (0,false),free:=[],ja:=0,listed:=false,values:=List.replicate aF (0,0),aj:=List.replicate 8 none,calls:=List.replicate 8 none,aB:=0,seq:=0,aI:=0,aT:=[],sw:=none,low:=0,cut:=[],cuts:=0}
def St.first (D:St) (s:Nat):St×K:=
 let o:=(D.c s).op
 let t:=D.t s
 match o.kind with
 |1=>
  match t.cell o.F with
  |some x=>(D,if x.there then .fin {value:=D.valueOf x.own} else .fin {e:=11})
  |none=>(D,.start ⟨o.F,t.aJ,.get⟩)
 |5=>D.scan s o.F
 |6=>(D,.draw)
 |7=>(D,.abort 0 1)
 |_=>
  match t.cell o.F with
  |some x=>
   if x.there∧o.kind=2 then (D,.fin {e:=12})
   else if x.there=false∧o.kind≠2 then (D,.fin {e:=11})
   else if x.own=0 then D.slot s true 0 0
   else (D,.again (if o.kind=4 then mine t else ever))
  |none=>(D,.start ⟨o.F,t.aJ,.change⟩)
/- Sweeping. -/
def mI (F:Nat):Option S:=if 63<F then none else some (.head F)
def nL (s:Nat):Option S:=if s=8 then mI 0 else some (.live s)
def iG (F ak G:Nat):Option S:=if G=0 then mI (F+1) else some (.visit F ak G)
def dD (aA low:Nat):Bool:=(rd aA).1==1&&1<=(rd aA).2&&(rd aA).2<=low
def St.aG (D:St):S->St×Bool
 |.now=>({D.tick with low:=ai (D.word 0),sw:=nL 0},false)
 |.live s=>
  let w:=D.word (1+s)
  ({D.tick with low:=if 0<w then min D.low w else D.low,sw:=nL (s+1)},false)
 |.head F=>({D.tick with sw:=iG F 0 (D.word (9+F))},false)
 |.visit F ak G=>
  let b:=D.word (af G 0)
  ({D.tick with sw:=some (if (rd b).1=2 then .maker F ak G (rd b).2 else .dD F ak G b)},false)
 |.maker F ak G id=>
  ({D.tick with sw:=some (if bz (D.word (D.place id))=4 then .unlink F ak G else .on F G)},false)
 |.dD F ak G b=>
  ({D.tick with sw:=some (if dD (D.word (af G 1)) D.low then .unlink F ak G else .on F G)},false)
 |.on F G=>({D.tick with sw:=iG F G (D.word (af G 2))},false)
 |.unlink F ak G=>({D.tick with sw:=some (.cut F ak G (D.word (af G 2)))},true)
 |.cut F ak G next=>
  if ak≠0 then ({D.put (af ak 2) next with cut:=D.cut++[(G,D.seq)],cuts:=D.cuts+1,sw:=iG F ak next},true)
  else if D.word (9+F)=G then ({D.put (9+F) next with cut:=D.cut++[(G,D.seq)],cuts:=D.cuts+1,sw:=iG F ak next},true)
  else ({D.tick with sw:=mI F},true)
def St.cz (D:St):St×Bool:=
 match D.cut with
 |(G,seq)::rest=>
  if D.calls.all (fun c=>match c with|some c=>seq<c.seq|none=>true) then ({D.give G with cut:=rest},true)
  else go D
 |[]=>go D
 where go (D:St):St×Bool:=
  let before:=D.count
  let (D,b):=D.aG (D.sw.getD .now)
  ({D with aI:=D.aI+(D.count - before)},b)
/- What is told. -/
structure Status where
 live:Bool:=false
 busy:Bool:=false
 waits:Bool:=false
 id:Nat:=0
 az:Nat:=0
 state:Nat:=0
 aJ:Nat:=0
 aA:Nat:=0
 ops:Nat:=0
 deriving Repr,DecidableEq,Inhabited
def St.status (D:St) (s:Nat):Status:=
 match D.aj.getD s none with
 |none=>{}
 |some t=>
  let c:=D.calls.getD s none
  {live:=true,id:=t.id,az:=t.az,state:=if 0<t.aA then 2 else 1,aJ:=t.aJ,aA:=t.aA,ops:=t.ops,busy:=c.isSome,waits:=(c.map (·.waits)).getD false}
def St.live (D:St):List Nat:=(List.range 8).filter fun s=>(D.aj.getD s none).isSome
end Go.Proofs.YthicolbbmjfkfaaGreat.En
namespace Go.Proofs.YthicolbbmjfkfaaGreat.Em
open Go.ChangeShapes Go.WideShapes Go.ChangeAt Go.RowKit En
abbrev u64 (n:Nat):Value:=zu n
abbrev i64 (n:Nat):Value:=I n
abbrev ptr (b:Nat):Value:=R b 0
structure au where
 L:dE
 H:Nat
 ba:Nat
 bw:Nat
 bp:Nat
 bs:Nat
 bv:Nat
 bt:Nat->Nat
 bm:Nat->Nat
 bc:Nat->Nat
 bx:Nat->Nat->Nat
 eZ:Value
 jF:Value
 iV:Value
 hcut:Bool
 fP:Nat
 dX:Value
 eH:Nat->Value
 fG:Nat->Value
 dY:Nat->Value
 aY:Nat->Value
 bA:Nat->Value
 bF:Nat->Value
 gL:List Value
 dV:List Value
 mp:Int
 mt:Nat->Int
 lS:Nat->Bool
def au.tp (A:au) (D:St) (s:Nat):Value:=match D.aj.getD s none with|some _=>ptr (A.bt s)|none=>.pointer none
def au.sv (A:au) (x:Option S):Value:=bif x.isNone then .nilFunc else A.dX
def au.Ny (A:au):Value×Bool×Nat×List Value:=(A.iV,A.hcut,A.fP,A.dV)
def au.Vg (A:au):Value×Value×Bool×Nat×List Value:=(A.dX,A.Ny)
def oD (A:au) (D:St):List Value:=
 [i64 D.aF, u64 D.limit, ptr A.ba, ptr A.bp, .slice (some (J A.bv 0)) D.aF D.aF,
  A.tp D 0,A.tp D 1,A.tp D 2,A.tp D 3,A.tp D 4,A.tp D 5,A.tp D 6,A.tp D 7,
  A.bF 0,A.bF 1,A.bF 2,A.bF 3,A.bF 4,A.bF 5,A.bF 6,A.bF 7,
  i64 D.aB,i64 D.seq,i64 D.aI,A.jF,A.sv D.sw,u64 D.low,A.iV,.bool false]
def o8 (A:au) (D:St):List Value:=[.slice (some (J A.bw 0)) D.words.length D.words.length,i64 D.count]
def jb (b:Bool) (m:Int):List Value:=[.int .u32 (if b then 1 else 0),.int .i32 m,.int .u32 0]
def mo (A:au) (D:St):List Value:=[.slice (some (J A.bs 0)) D.aF D.aF,i64 65535,A.eZ,i64 D.ja]++jb D.listed A.mp
def two (l:List (Value×Value)):List Value:=l.flatMap fun p=>[p.1,p.2]
def zC (D:St):List Value:=two (D.tags.map fun p=>(i64 p.1,.bool p.2))
def o9 (D:St):List Value:=two (D.values.map fun p=>(i64 p.1,i64 p.2))
def eO (A:au) (s:Nat) (t:bL):List Value:=
 [i64 t.id,i64 t.az,i64 s,u64 t.aJ,u64 t.aA,i64 t.ops,A.eH s,.map (some (A.bm s)),A.fG s,A.dY s]++jb t.over (A.mt s)++[.bool (A.lS s)]
def fH (A:au) (s:Nat) (c:dN):List Value:=
 [i64 c.op.kind,i64 c.op.F,i64 c.op.hi,i64 c.op.value,A.bA s,i64 c.r.e,i64 c.r.value,A.aY s,i64 c.r.over,i64 c.r.aQ,.bool c.waits,.bool c.over,i64 c.seq]
def sJ (x:kP):List Value:=[u64 x.own,u64 x.old,.bool x.there]
def gY (A:au) (s:Nat) (t:bL):List MapEntry:=t.cells.reverse.zipIdx.map fun p=>⟨i64 p.1.1,ptr (A.bx s p.1.1),p.2⟩
def jW (l:List (Nat×Nat×Bool)):List Value:=l.flatMap fun r=>[i64 r.1,u64 r.2.1,.bool r.2.2]
def bJ (l:List (Nat×Nat)):List Value:=two (l.map fun p=>(i64 p.1,i64 p.2))
def bq (A:au) (D:St):bU->Entry
 |.df=>.obj A.H (oD A D) 111
 |.arena=>.obj A.ba (o8 A D) 184
 |.words=>.obj A.bw (D.words.map u64) 186
 |.bO=>.obj A.bp (mo A D) 208
 |.tags=>.obj A.bs (zC D) 243
 |.free=>.own A.eZ 3 1 D.free.length (D.free.map i64)
 |.values=>.obj A.bv (o9 D) 190
 |.aT=>.own A.jF 62 12 D.aT.length A.gL
 |.cut=>bif A.hcut then .obj A.fP A.dV 203 else .none
 |.tmp=>.none
 |.fw s=>match D.aj.getD s none with|some t=>.obj (A.bt s) (eO A s t) 131|none=>.none
 |.map s=>match D.aj.getD s none with|some t=>.map (A.bm s) (gY A s t) t.cells.length|none=>.none
 |.cell s F=>match (D.aj.getD s none).bind (·.cell F) with|some x=>.obj (A.bx s F) (sJ x) 225|none=>.none
 |.keys s=>match D.aj.getD s none with|some t=>.own (A.eH s) 3 1 t.keys.length (t.keys.map i64)|none=>.none
 |.reads s=>match D.aj.getD s none with|some t=>.own (A.fG s) 250 3 t.reads.length (jW t.reads)|none=>.none
 |.aP s=>match D.aj.getD s none with|some t=>.own (A.dY s) 3 1 t.aP.length (t.aP.map i64)|none=>.none
 |.call s=>match D.calls.getD s none with|some c=>.obj (A.bc s) (fH A s c) 141|none=>.none
 |.aO s=>match D.calls.getD s none with|some c=>.own (A.aY s) 152 2 c.r.aO.length (bJ c.r.aO)|none=>.none
end Go.Proofs.YthicolbbmjfkfaaGreat.Em
namespace Go.Proofs.YthicolbbmjfkfaaGreat.Em
open Go.ChangeShapes Go.WideShapes Go.ChangeAt Go.RowKit En
def ng (e:Ev) (vp:Value):List Value:=
 [i64 e.kind,i64 e.t,u64 e.n,i64 e.op.kind,i64 e.op.F,i64 e.op.hi,i64 e.op.value,i64 e.res.e,i64 e.res.value,vp,i64 e.res.over,i64 e.res.aQ]
def kW (L:dE) (w:World) (v:Value) (xs:List Value):Prop:=dS L w 2 v xs∧∀ g off n cap,v=.slice (some (J g off)) n cap->n=0∨∃ cs,w.heap[g]? =some (.cells cs 152)
theorem kW.nil (L:dE) (w:World):kW L w (.slice none 0 0) []:=⟨dS.nil L w 2,fun g off n cap h=>by simp at h⟩
theorem kW.grow {L L':dE} {w E:World} {v:Value} {xs:List Value} (h:kW L w v xs) (g:Grow L w L' E):kW L' E v xs:=by
 refine⟨h.1.grow g,fun b off n cap hv=>?_⟩
 rcases h.2 b off n cap hv with h0|⟨cs,hc⟩
 . exact .inl h0
 . by_cases hn:n=0
   . exact .inl hn
   . obtain⟨a,n',cap',e1,e2,e3,e4,e5⟩:=h.1
     obtain⟨rfl,rfl,rfl⟩:a=za b off∧n'=n∧cap'=cap:=by rw[hv] at e1;simp at e1;exact⟨e1.1.symm,e1.2.1.symm,e1.2.2.symm⟩
     obtain⟨b',off',e6,e7,e8,_⟩:=e5.resolve_left hn;obtain⟨rfl,rfl⟩:b=b'∧off=off':=by simpa using e6
     exact .inr ⟨cs,(g.block b e8 e7).trans hc⟩
def rC (L:dE) (w:World):List Ev->List Value->Prop
 |[],xs=>xs=[]
 |e::l,xs=>∃ vp ys,xs=ng e vp++ys∧kW L w vp (bJ e.res.aO)∧rC L w l ys
theorem rC.grow {L L':dE} {w E:World} (g:Grow L w L' E):∀ {l:List Ev} {xs:List Value},rC L w l xs->rC L' E l xs
 |[],_,h=>h
 |_::_,_,⟨vp,ys,h1,h2,h3⟩=>⟨vp,ys,h1,h2.grow g,rC.grow g h3⟩
theorem rC.snoc {L:dE} {w:World} {e:Ev} {vp:Value} (hp:kW L w vp (bJ e.res.aO)):∀ {l:List Ev} {xs:List Value},rC L w l xs->rC L w (l++[e]) (xs++ng e vp)
 |[],xs,h=>by
  have h0:xs=[]:=h;subst h0;exact⟨vp,[],by simp,hp,rfl⟩
 |_::_,_,⟨v,ys,h1,h2,h3⟩=>⟨v,ys++ng e vp,by rw[h1,List.append_assoc],h2,rC.snoc hp h3⟩
structure aC (A:au) (D:St) (w:World):Prop where
 mem:Holds A.L w (bq A D)
 ev:rC A.L w D.aT A.gL
 sl:1<=D.aF∧D.aF<=256
 nw:D.words.length=73+D.aF*3+2001
 nt:D.tags.length=D.aF
 nv:D.values.length=D.aF
 n8:D.aj.length=8
 nc:D.calls.length=8
theorem aC.below {A:au} {D:St} {w E:World} (h:aC A D w) (hb:Below w.heap.size w E):aC A D E:=⟨h.mem.below hb,h.ev.grow (Grow.below hb),h.sl,h.nw,h.nt,h.nv,h.n8,h.nc⟩
theorem aC.alloc {A:au} {D:St} {w:World} (h:aC A D w) (o:Obj):aC A D (w.alloc o):=h.below ((Below.refl _ _).alloc (zr _) o)
theorem aC.drew {A:au} {D:St} {w:World} (h:aC A D w):aC A D w.drew:=h.below (Below.refl _ _).drew
theorem aC.drewN {A:au} {D:St} {w:World} (h:aC A D w) (n:Nat):aC A D (w.drewN n):=h.below ⟨rfl,rfl,rfl,zr _,fun _ _=>rfl⟩
theorem aC.df {A:au} {D:St} {w:World} (h:aC A D w) (i:Nat) {v:Value} (hv:(oD A D)[i]? =some v):w.cell? (J A.H i)=some v:=h.mem.cell (r:=.df) rfl i hv
theorem aC.z2 {A:au} {D:St} {w:World} (h:aC A D w):w.cell? (J A.H 2)=zs A.ba 0:=h.df 2 rfl
theorem aC.iC {A:au} {D:St} {w:World} (h:aC A D w) (i:Nat):w.frozen? (J A.H i)=false:=h.mem.frozen (r:=.df) rfl i
theorem aC.arena {A:au} {D:St} {w:World} (h:aC A D w) (i:Nat) {v:Value} (hv:(o8 A D)[i]? =some v):w.cell? (J A.ba i)=some v:=h.mem.cell (r:=.arena) rfl i hv
theorem aC.Qz {A:au} {D:St} {w:World} (h:aC A D w) (i:Nat):w.frozen? (J A.ba i)=false:=h.mem.frozen (r:=.arena) rfl i
theorem aC.word {A:au} {D:St} {w:World} (h:aC A D w) {i:Nat} (hi:i<D.words.length):w.cell? (J A.bw i)=zv (D.word i:Int):=by
 refine h.mem.cell (r:=.words) rfl i ?_;rw[List.getElem?_map,zx hi];simp[St.word,List.getD,hi]
theorem aC.P8 {A:au} {D:St} {w:World} (h:aC A D w) (i:Nat):w.frozen? (J A.bw i)=false:=h.mem.frozen (r:=.words) rfl i
theorem cK {D:St} {s:Nat} {t:bL} (ht:D.aj.getD s none=some t):D.t s=t:=by unfold St.t;rw[ht];rfl
theorem bu {D:St} {s:Nat} {c:dN} (hc:D.calls.getD s none=some c):D.c s=c:=by unfold St.c;rw[hc];rfl
theorem jr {A:au} {D:St} {s:Nat} {t:bL} (ht:D.aj.getD s none=some t):bq A D (.fw s)=.obj (A.bt s) (eO A s t) 131:=by simp only[bq,ht]
theorem lT {A:au} {D:St} {s:Nat} {c:dN} (hc:D.calls.getD s none=some c):bq A D (.call s)=.obj (A.bc s) (fH A s c) 141:=by simp only[bq,hc]
theorem aC.fw {A:au} {D:St} {w:World} (h:aC A D w) {s:Nat} {t:bL} (ht:D.aj.getD s none=some t) (i:Nat) {v:Value} (hv:(eO A s t)[i]? =some v):w.cell? (J (A.bt s) i)=some v:=h.mem.cell (jr ht) i hv
theorem aC.wO {A:au} {D:St} {w:World} (h:aC A D w) {s:Nat} {t:bL} (ht:D.aj.getD s none=some t) (i:Nat):w.frozen? (J (A.bt s) i)=false:=h.mem.frozen (jr ht) i
theorem aC.call {A:au} {D:St} {w:World} (h:aC A D w) {s:Nat} {c:dN} (hc:D.calls.getD s none=some c) (i:Nat) {v:Value} (hv:(fH A s c)[i]? =some v):w.cell? (J (A.bc s) i)=some v:=h.mem.cell (lT hc) i hv
theorem aC.qh {A:au} {D:St} {w:World} (h:aC A D w) {s:Nat} {c:dN} (hc:D.calls.getD s none=some c) (i:Nat):w.frozen? (J (A.bc s) i)=false:=h.mem.frozen (lT hc) i
/- Writing. -/
theorem aC.tick {A:au} {D:St} {w:World} (h:aC A D w):aC A D.tick (w.setCell (J A.ba 1) (I ((D.count:Int)+1)))∧Grow A.L w A.L (w.setCell (J A.ba 1) (I ((D.count:Int)+1))):=by
 have g:=h.mem.di (r:=.arena) rfl 1 (I ((D.count:Int)+1));exact⟨⟨h.mem.set .arena rfl 1 _ (by simp[bq,o8,St.tick]) (fun q hq=>by cases q<;>first|rfl|exact absurd rfl hq),h.ev.grow g,h.sl,h.nw,h.nt,h.nv,h.n8,h.nc⟩,g⟩
theorem aC.store {A:au} {D:St} {w:World} (h:aC A D w) (i n:Nat):aC A {D with words:=D.words.set i n} (w.setCell (J A.bw i) (zu n))∧Grow A.L w A.L (w.setCell (J A.bw i) (zu n)):=by
 have g:=h.mem.di (r:=.words) rfl i (zu n);exact⟨⟨h.mem.set .words rfl i _ (by simp[bq,List.map_set]) (fun q hq=>by cases q<;>first|rfl|exact absurd rfl hq|(simp[bq,o8])),h.ev.grow g,h.sl,by simpa using h.nw,h.nt,h.nv,h.n8,h.nc⟩,g⟩
theorem aC.put {A:au} {D:St} {w:World} (h:aC A D w) (i n:Nat):aC A (D.put i n) ((w.setCell (J A.ba 1) (I ((D.count:Int)+1))).setCell (J A.bw i) (zu n))∧Grow A.L w A.L ((w.setCell (J A.ba 1) (I ((D.count:Int)+1))).setCell (J A.bw i) (zu n)):=by
 obtain⟨h1,g1⟩:=h.tick;obtain⟨h2,g2⟩:=h1.store i n;exact⟨h2,g1.trans g2⟩
end Go.Proofs.YthicolbbmjfkfaaGreat.Em
namespace Go.Proofs.YthicolbbmjfkfaaGreat.Em
open Go.ChangeShapes Go.WideShapes Go.ChangeAt Go.RowKit En
theorem kH {α:Type} (l:List α) (s q:Nat) (x d:α) (hs:s<l.length):(l.set s x).getD q d=if q=s then x else l.getD q d:=by
 simp only[mM,List.getElem?_set]
 by_cases h:s=q
 . subst h;simp[hs]
 . simp[h,Ne.symm h]
theorem dC {D:St} {s:Nat} (hs:s<D.aj.length) (t:bL) (q:Nat):(D.bK s t).aj.getD q none=if q=s then some t else D.aj.getD q none:=kH _ _ _ _ _ hs
theorem dm {D:St} {s:Nat} (hs:s<D.calls.length) (c:dN) (q:Nat):(D.aK s c).calls.getD q none=if q=s then some c else D.calls.getD q none:=kH _ _ _ _ _ hs
theorem dB {D:St} {s:Nat} {t:bL} (ht:D.aj.getD s none=some t):s<D.aj.length:=by
 rcases Nat.lt_or_ge s D.aj.length with h|h
 . exact h
 . simp[mM,Cx h] at ht
theorem bP {D:St} {s:Nat} {c:dN} (hc:D.calls.getD s none=some c):s<D.calls.length:=by
 rcases Nat.lt_or_ge s D.calls.length with h|h
 . exact h
 . simp[mM,Cx h] at hc
theorem Nz (A:au) {D:St} {s:Nat} {t:bL} (ht:D.aj.getD s none=some t) (t':bL) (q:Nat):A.tp (D.bK s t') q=A.tp D q:=by
 unfold au.tp;rw[dC (dB ht)]
 by_cases h:q=s
 . subst h;rw[aV rfl,ht]
 . rw[aR h]
def gT (A:au) (s:Nat) (t:Option bL):bU->Entry
 |.fw _=>match t with|some t=>.obj (A.bt s) (eO A s t) 131|none=>.none
 |.map _=>match t with|some t=>.map (A.bm s) (gY A s t) t.cells.length|none=>.none
 |.cell _ F=>match t.bind (·.cell F) with|some x=>.obj (A.bx s F) (sJ x) 225|none=>.none
 |.keys _=>match t with|some t=>.own (A.eH s) 3 1 t.keys.length (t.keys.map i64)|none=>.none
 |.reads _=>match t with|some t=>.own (A.fG s) 250 3 t.reads.length (jW t.reads)|none=>.none
 |.aP _=>match t with|some t=>.own (A.dY s) 3 1 t.aP.length (t.aP.map i64)|none=>.none
 |_=>.none
def bU.tx:bU->Option Nat
 |.fw s|.map s|.cell s _|.keys s|.reads s|.aP s=>some s
 |_=>none
theorem iH (A:au) (D:St) {q:bU} {s:Nat} (h:q.tx=some s):bq A D q=gT A s (D.aj.getD s none) q:=by
 cases q<;>simp[bU.tx] at h<;>subst h<;>rfl
theorem jw (A:au) {D:St} {s:Nat} {t:bL} (ht:D.aj.getD s none=some t) (t':bL) {q:bU} (h:q.tx≠some s):bq A (D.bK s t') q=bq A D q:=by
 cases hq:q.tx with
 |none=>
  cases q<;>first|rfl|(simp[bU.tx] at hq;done)|skip
  simp only[bq];simp only[oD,Nz A ht];rfl
 |some k=>
  have Z:k≠s:=by rintro rfl;exact h hq
  rw[iH A _ hq,iH A _ hq,dC (dB ht),aR Z]
theorem aC.E9 {A:au} {D:St} {w:World} (h:aC A D w) {s:Nat} {t:bL} (ht:D.aj.getD s none=some t) (t':bL) (i:Nat) (v:Value) (hcs:eO A s t'=(eO A s t).set i v)
 (h1:t'.cells=t.cells) (h2:t'.keys=t.keys) (h3:t'.reads=t.reads) (h4:t'.aP=t.aP):aC A (D.bK s t') (w.setCell (J (A.bt s) i) v)∧Grow A.L w A.L (w.setCell (J (A.bt s) i) v):=by
 have g:=h.mem.di (jr ht) i v;refine⟨⟨h.mem.set (.fw s) (jr ht) i v ?_ ?_,h.ev.grow g,h.sl,h.nw,h.nt,h.nv,by simpa [St.bK] using h.n8,h.nc⟩,g⟩
 . rw[iH A _ (s:=s) rfl,dC (dB ht),aV rfl]
   simp only[gT,hcs]
 . intro q hq
   by_cases hs:q.tx=some s
   . rw[iH A _ hs,iH A _ hs,dC (dB ht),aV rfl,ht]
     cases q<;>simp[bU.tx] at hs<;>subst hs<;>first|exact absurd rfl hq|(simp[gT,gY,bL.cell,h1,h2,h3,h4];done)
   . exact jw A ht t' hs
/- A call's parts. -/
def nM (A:au) (s:Nat) (c:Option dN):bU->Entry
 |.call _=>match c with|some c=>.obj (A.bc s) (fH A s c) 141|none=>.none
 |.aO _=>match c with|some c=>.own (A.aY s) 152 2 c.r.aO.length (bJ c.r.aO)|none=>.none
 |_=>.none
def bU.cl:bU->Option Nat
 |.call s|.aO s=>some s
 |_=>none
theorem jX (A:au) (D:St) {q:bU} {s:Nat} (h:q.cl=some s):bq A D q=nM A s (D.calls.getD s none) q:=by
 cases q<;>simp[bU.cl] at h<;>subst h<;>rfl
theorem mO (A:au) {D:St} {s:Nat} {c:dN} (hc:D.calls.getD s none=some c) (c':dN) {q:bU} (h:q.cl≠some s):bq A (D.aK s c') q=bq A D q:=by
 cases hq:q.cl with
 |none=>
  cases q<;>first|rfl|(simp[bU.cl] at hq;done)
 |some k=>
  have Z:k≠s:=by rintro rfl;exact h hq
  rw[jX A _ hq,jX A _ hq,dm (bP hc),aR Z]
theorem aC.sK {A:au} {D:St} {w:World} (h:aC A D w) {s:Nat} {c:dN} (hc:D.calls.getD s none=some c) (c':dN) (i:Nat) (v:Value) (hcs:fH A s c'=(fH A s c).set i v)
 (h1:c'.r.aO=c.r.aO):aC A (D.aK s c') (w.setCell (J (A.bc s) i) v)∧Grow A.L w A.L (w.setCell (J (A.bc s) i) v):=by
 have g:=h.mem.di (lT hc) i v;refine⟨⟨h.mem.set (.call s) (lT hc) i v ?_ ?_,h.ev.grow g,h.sl,h.nw,h.nt,h.nv,h.n8,by simpa [St.aK] using h.nc⟩,g⟩
 . rw[jX A _ (s:=s) rfl,dm (bP hc),aV rfl]
   simp only[nM,hcs]
 . intro q hq
   by_cases hs:q.cl=some s
   . rw[jX A _ hs,jX A _ hs,dm (bP hc),aV rfl,hc]
     cases q<;>simp[bU.cl] at hs<;>subst hs<;>first|exact absurd rfl hq|(simp[nM,h1];done)
   . exact mO A hc c' hs
end Go.Proofs.YthicolbbmjfkfaaGreat.Em
namespace Go.Proofs.YthicolbbmjfkfaaGreat.Em
open Go.ChangeShapes Go.WideShapes Go.ChangeAt Go.RowKit En
def kS (f:Nat->Value) (s:Nat) (v:Value):Nat->Value:=fun k=>if k=s then v else f k
theorem Holds.of_eq {L:dE} {w:World} {m m':bU->Entry} (h:Holds L w m) (e:∀ q,m' q=m q):Holds L w m':=⟨fun q=>by rw[e];exact h.all q,h.fresh⟩
theorem lU (f:Nat->Value) (s:Nat) (v:Value):kS f s v s=v:=aV rfl
theorem bH (f:Nat->Value) {s k:Nat} (v:Value) (h:k≠s):kS f s v k=f k:=aR h
structure au.P9 (A A':au) (s:Nat):Prop where
 H:A'.H=A.H
 ba:A'.ba=A.ba
 bw:A'.bw=A.bw
 bp:A'.bp=A.bp
 bs:A'.bs=A.bs
 bv:A'.bv=A.bv
 bt:A'.bt=A.bt
 bc:A'.bc=A.bc
 eZ:A'.eZ=A.eZ
 jF:A'.jF=A.jF
 iV:A'.Ny=A.Ny
 dX:A'.dX=A.dX
 gL:A'.gL=A.gL
 bA:A'.bA=A.bA
 bF:A'.bF=A.bF
 aY:A'.aY=A.aY
 mp:A'.mp=A.mp
 bm:∀ k,k≠s->A'.bm k=A.bm k
 bx:∀ k,k≠s->A'.bx k=A.bx k
 eH:∀ k,k≠s->A'.eH k=A.eH k
 fG:∀ k,k≠s->A'.fG k=A.fG k
 dY:∀ k,k≠s->A'.dY k=A.dY k
 mt:∀ k,k≠s->A'.mt k=A.mt k
 lS:∀ k,k≠s->A'.lS k=A.lS k
theorem mU {A A':au} {s:Nat} (h:A.P9 A' s) (D:St) {q:bU} (hq:q.tx≠some s):bq A' D q=bq A D q:=by
 have c1:A'.iV=A.iV:=congrArg (·.1) h.iV;have c2:A'.hcut=A.hcut:=congrArg (·.2.1) h.iV;have c3:A'.fP=A.fP:=congrArg (·.2.2.1) h.iV;have c4:A'.dV=A.dV:=congrArg (·.2.2.2) h.iV;have tp:∀ k,A'.tp D k=A.tp D k:=fun k=>by unfold au.tp;rw[h.bt]
 have tc:∀ k,k≠s->∀ t,eO A' k t=eO A k t:=fun k Z t=>by simp only[eO,h.bm k Z,h.eH k Z,h.fG k Z,h.dY k Z,h.mt k Z,h.lS k Z]
 have me:∀ k,k≠s->∀ t,gY A' k t=gY A k t:=fun k Z t=>by simp only[gY,h.bx k Z]
 have cc:∀ k c,fH A' k c=fH A k c:=fun k c=>by simp only[fH,h.bA,h.aY]
 cases q<;>simp only[bU.tx,ne_eq,Option.some.injEq,not_false_eq_true] at hq<;>first
  |(simp only[bq,oD,au.sv,o8,mo,zC,o9,tp,h.bF,h.H,h.ba,h.bw,h.bp,h.bs,h.bv,h.eZ,h.jF,c1,c2,c3,c4,h.dX,h.gL,h.bc,h.aY,h.mp,cc];done)
  |(simp only[bq,h.bt,tc _ hq];done)
  |(simp only[bq,h.bm _ hq,me _ hq];done)
  |(simp only[bq,h.bx _ hq];done)
  |(simp only[bq,h.eH _ hq];done)
  |(simp only[bq,h.fG _ hq];done)
  |(simp only[bq,h.dY _ hq];done)
theorem mem_keys {A:au} {D:St} {s:Nat} {t:bL} (ht:D.aj.getD s none=some t):bq A D (.keys s)=.own (A.eH s) 3 1 t.keys.length (t.keys.map i64):=by simp only[bq,ht]
def au.wE (A:au) (s:Nat) (v:Value):au:={A with L:=wN A.L v (.keys s),eH:=kS A.eH s v}
theorem aC.QA {A:au} {D:St} {w Y:World} (h:aC A D w) {s:Nat} {t:bL} (ht:D.aj.getD s none=some t) (l:List _) (v':Value)
 (hg:w.grownBy Y (A.eH s).ownBlock) (ho:Y.ownsRow 0 3 1 v' l.length (l.map i64)) (hw:v'.ownBlock=(A.eH s).ownBlock∨∀ g,v'.ownBlock=some g->w.heap.size<=g):
 aC (A.wE s v') (D.bK s {t with keys:=l}) (Y.setCell (J (A.bt s) 6) v')∧Grow A.L w (A.wE s v').L (Y.setCell (J (A.bt s) 6) v')∧Y.cell? (J (A.bt s) 6)=some (A.eH s)∧Y.frozen? (J (A.bt s) 6)=false:=by
 obtain⟨h1,g1⟩:=h.mem.grown (.keys s) (mem_keys ht) hg ho hw;have e2:iF (bq A D) (.keys s) (.own v' 3 1 l.length (l.map i64)) (.fw s)=.obj (A.bt s) (eO A s t) 131:=by rw[bQ _ _ (by simp),jr ht]
 have h2:=h1.put (.fw s) e2 6 v';have g2:=h1.di e2 6 v';have g:=g1.trans g2;refine⟨⟨?_,h.ev.grow g,h.sl,h.nw,h.nt,h.nv,by simpa [St.bK] using h.n8,h.nc⟩,g,h1.cell e2 6 rfl,h1.frozen e2 6⟩;refine h2.of_eq fun q=>?_
 by_cases hs:q.tx=some s
 . rw[iH _ _ hs,dC (dB ht),aV rfl]
   unfold iF;rw[iH A _ hs,ht]
   cases q<;>simp[bU.tx] at hs<;>subst hs<;>simp[gT,gY,bL.cell,eO,au.wE,kS]
 . have e3:q≠.keys s:=by rintro rfl;exact hs rfl
   have e4:q≠.fw s:=by rintro rfl;exact hs rfl
   rw[bQ _ _ e4,bQ _ _ e3,jw _ ht _ hs];exact mU (A:=A) (A':=A.wE s v') ⟨rfl,rfl,rfl,rfl,rfl,rfl,rfl,rfl,rfl,rfl,rfl,rfl,rfl,rfl,rfl,rfl,rfl,fun k Z=>by first|rfl|exact bH _ _ Z,fun k Z=>by first|rfl|exact bH _ _ Z,fun k Z=>by first|rfl|exact bH _ _ Z,fun k Z=>by first|rfl|exact bH _ _ Z,fun k Z=>by first|rfl|exact bH _ _ Z,fun _ _=>rfl,fun _ _=>rfl⟩ D hs
theorem mem_reads {A:au} {D:St} {s:Nat} {t:bL} (ht:D.aj.getD s none=some t):bq A D (.reads s)=.own (A.fG s) 250 3 t.reads.length (jW t.reads):=by simp only[bq,ht]
def au.sM (A:au) (s:Nat) (v:Value):au:={A with L:=wN A.L v (.reads s),fG:=kS A.fG s v}
theorem aC.NA {A:au} {D:St} {w Y:World} (h:aC A D w) {s:Nat} {t:bL} (ht:D.aj.getD s none=some t) (l:List _) (v':Value)
 (hg:w.grownBy Y (A.fG s).ownBlock) (ho:Y.ownsRow 0 250 3 v' l.length (jW l)) (hw:v'.ownBlock=(A.fG s).ownBlock∨∀ g,v'.ownBlock=some g->w.heap.size<=g):
 aC (A.sM s v') (D.bK s {t with reads:=l}) (Y.setCell (J (A.bt s) 8) v')∧Grow A.L w (A.sM s v').L (Y.setCell (J (A.bt s) 8) v')∧Y.cell? (J (A.bt s) 8)=some (A.fG s)∧Y.frozen? (J (A.bt s) 8)=false:=by
 obtain⟨h1,g1⟩:=h.mem.grown (.reads s) (mem_reads ht) hg ho hw;have e2:iF (bq A D) (.reads s) (.own v' 250 3 l.length (jW l)) (.fw s)=.obj (A.bt s) (eO A s t) 131:=by rw[bQ _ _ (by simp),jr ht]
 have h2:=h1.put (.fw s) e2 8 v';have g2:=h1.di e2 8 v';have g:=g1.trans g2;refine⟨⟨?_,h.ev.grow g,h.sl,h.nw,h.nt,h.nv,by simpa [St.bK] using h.n8,h.nc⟩,g,h1.cell e2 8 rfl,h1.frozen e2 8⟩;refine h2.of_eq fun q=>?_
 by_cases hs:q.tx=some s
 . rw[iH _ _ hs,dC (dB ht),aV rfl]
   unfold iF;rw[iH A _ hs,ht]
   cases q<;>simp[bU.tx] at hs<;>subst hs<;>simp[gT,gY,bL.cell,eO,au.sM,kS]
 . have e3:q≠.reads s:=by rintro rfl;exact hs rfl
   have e4:q≠.fw s:=by rintro rfl;exact hs rfl
   rw[bQ _ _ e4,bQ _ _ e3,jw _ ht _ hs];exact mU (A:=A) (A':=A.sM s v') ⟨rfl,rfl,rfl,rfl,rfl,rfl,rfl,rfl,rfl,rfl,rfl,rfl,rfl,rfl,rfl,rfl,rfl,fun k Z=>by first|rfl|exact bH _ _ Z,fun k Z=>by first|rfl|exact bH _ _ Z,fun k Z=>by first|rfl|exact bH _ _ Z,fun k Z=>by first|rfl|exact bH _ _ Z,fun k Z=>by first|rfl|exact bH _ _ Z,fun _ _=>rfl,fun _ _=>rfl⟩ D hs
theorem mV {A:au} {D:St} {s:Nat} {t:bL} (ht:D.aj.getD s none=some t):bq A D (.aP s)=.own (A.dY s) 3 1 t.aP.length (t.aP.map i64):=by simp only[bq,ht]
def au.sN (A:au) (s:Nat) (v:Value):au:={A with L:=wN A.L v (.aP s),dY:=kS A.dY s v}
theorem aC.NB {A:au} {D:St} {w Y:World} (h:aC A D w) {s:Nat} {t:bL} (ht:D.aj.getD s none=some t) (l:List _) (v':Value)
 (hg:w.grownBy Y (A.dY s).ownBlock) (ho:Y.ownsRow 0 3 1 v' l.length (l.map i64)) (hw:v'.ownBlock=(A.dY s).ownBlock∨∀ g,v'.ownBlock=some g->w.heap.size<=g):
 aC (A.sN s v') (D.bK s {t with aP:=l}) (Y.setCell (J (A.bt s) 9) v')∧Grow A.L w (A.sN s v').L (Y.setCell (J (A.bt s) 9) v')∧Y.cell? (J (A.bt s) 9)=some (A.dY s)∧Y.frozen? (J (A.bt s) 9)=false:=by
 obtain⟨h1,g1⟩:=h.mem.grown (.aP s) (mV ht) hg ho hw;have e2:iF (bq A D) (.aP s) (.own v' 3 1 l.length (l.map i64)) (.fw s)=.obj (A.bt s) (eO A s t) 131:=by rw[bQ _ _ (by simp),jr ht]
 have h2:=h1.put (.fw s) e2 9 v';have g2:=h1.di e2 9 v';have g:=g1.trans g2;refine⟨⟨?_,h.ev.grow g,h.sl,h.nw,h.nt,h.nv,by simpa [St.bK] using h.n8,h.nc⟩,g,h1.cell e2 9 rfl,h1.frozen e2 9⟩;refine h2.of_eq fun q=>?_
 by_cases hs:q.tx=some s
 . rw[iH _ _ hs,dC (dB ht),aV rfl]
   unfold iF;rw[iH A _ hs,ht]
   cases q<;>simp[bU.tx] at hs<;>subst hs<;>simp[gT,gY,bL.cell,eO,au.sN,kS]
 . have e3:q≠.aP s:=by rintro rfl;exact hs rfl
   have e4:q≠.fw s:=by rintro rfl;exact hs rfl
   rw[bQ _ _ e4,bQ _ _ e3,jw _ ht _ hs];exact mU (A:=A) (A':=A.sN s v') ⟨rfl,rfl,rfl,rfl,rfl,rfl,rfl,rfl,rfl,rfl,rfl,rfl,rfl,rfl,rfl,rfl,rfl,fun k Z=>by first|rfl|exact bH _ _ Z,fun k Z=>by first|rfl|exact bH _ _ Z,fun k Z=>by first|rfl|exact bH _ _ Z,fun k Z=>by first|rfl|exact bH _ _ Z,fun k Z=>by first|rfl|exact bH _ _ Z,fun _ _=>rfl,fun _ _=>rfl⟩ D hs
end Go.Proofs.YthicolbbmjfkfaaGreat.Em
namespace Go.Proofs.YthicolbbmjfkfaaGreat.Em
open Go.ChangeShapes Go.WideShapes Go.ChangeAt Go.RowKit En
theorem aC.qi {A A':au} {D bB:St} {w:World} (h:aC A D w) (hL:A'.L=A.L) (i:Nat) (v:Value) (hcs:bq A' bB .df=.obj A.H ((oD A D).set i v) 111) (hm:∀ q,q≠.df->bq A' bB q=bq A D q)
 (h0:bB.aT=D.aT) (h0':A'.gL=A.gL) (h1:bB.aF=D.aF) (h2:bB.words.length=D.words.length) (h3:bB.tags.length=D.tags.length) (h4:bB.values.length=D.values.length) (h5:bB.aj.length=D.aj.length) (h6:bB.calls.length=D.calls.length):
 aC A' bB (w.setCell (J A.H i) v)∧Grow A.L w A'.L (w.setCell (J A.H i) v):=by
 have g:=h.mem.di (r:=.df) rfl i v;rw[hL];exact⟨⟨hL ▸ h.mem.set .df rfl i v hcs hm,by rw[h0,h0',hL];exact h.ev.grow g,by rw[h1];exact h.sl,by rw[h2,h1];exact h.nw,by rw[h3,h1];exact h.nt,by rw[h4,h1];exact h.nv,h5.trans h.n8,h6.trans h.nc⟩,g⟩
theorem aC.Hq {A:au} {D:St} {w:World} (h:aC A D w) (n:Nat):aC A {D with aB:=n} (w.setCell (J A.H 21) (I n))∧Grow A.L w A.L (w.setCell (J A.H 21) (I n)):=
 h.qi rfl 21 _ rfl (fun q hq=>by cases q<;>first|rfl|exact absurd rfl hq) rfl rfl rfl rfl rfl rfl rfl rfl
theorem aC.Kv {A:au} {D:St} {w:World} (h:aC A D w) (n:Nat):aC A {D with seq:=n} (w.setCell (J A.H 22) (I n))∧Grow A.L w A.L (w.setCell (J A.H 22) (I n)):=
 h.qi rfl 22 _ rfl (fun q hq=>by cases q<;>first|rfl|exact absurd rfl hq) rfl rfl rfl rfl rfl rfl rfl rfl
theorem aC.sO {A:au} {D:St} {w:World} (h:aC A D w) (n:Nat):aC A {D with aI:=n} (w.setCell (J A.H 23) (I n))∧Grow A.L w A.L (w.setCell (J A.H 23) (I n)):=
 h.qi rfl 23 _ rfl (fun q hq=>by cases q<;>first|rfl|exact absurd rfl hq) rfl rfl rfl rfl rfl rfl rfl rfl
theorem aC.Kw {A:au} {D:St} {w:World} (h:aC A D w) (n:Nat):aC A {D with low:=n} (w.setCell (J A.H 26) (zu n))∧Grow A.L w A.L (w.setCell (J A.H 26) (zu n)):=
 h.qi rfl 26 _ rfl (fun q hq=>by cases q<;>first|rfl|exact absurd rfl hq) rfl rfl rfl rfl rfl rfl rfl rfl
theorem aC.fK {A:au} {D:St} {w:World} (h:aC A D w) (v:Value) (x:S):aC {A with dX:=v} {D with sw:=some x} (w.setCell (J A.H 25) v)∧Grow A.L w A.L (w.setCell (J A.H 25) v):=
 h.qi (A':={A with dX:=v}) (bB:={D with sw:=some x}) rfl 25 _ rfl (fun q hq=>by cases q<;>first|rfl|exact absurd rfl hq) rfl rfl rfl rfl rfl rfl rfl rfl
theorem aC.Ky {A:au} {D:St} {w:World} (h:aC A D w):aC A {D with sw:=none} (w.setCell (J A.H 25) (.nilFunc))∧Grow A.L w A.L (w.setCell (J A.H 25) (.nilFunc)):=
 h.qi (A':=A) (bB:={D with sw:=none}) rfl 25 _ rfl (fun q hq=>by cases q<;>first|rfl|exact absurd rfl hq) rfl rfl rfl rfl rfl rfl rfl rfl
theorem aC.qj {A:au} {D:St} {w:World} (h:aC A D w) (v:Value) (l:List (Nat×Nat)) (n:Nat):aC {A with iV:=v} {D with cut:=l,cuts:=n} (w.setCell (J A.H 27) v)∧Grow A.L w A.L (w.setCell (J A.H 27) v):=
 h.qi (A':={A with iV:=v}) (bB:={D with cut:=l,cuts:=n}) rfl 27 _ rfl (fun q hq=>by cases q<;>first|rfl|exact absurd rfl hq) rfl rfl rfl rfl rfl rfl rfl rfl
theorem aC.sP {A:au} {D:St} {w:World} (h:aC A D w) {s:Nat} (hs:s<8) (v:Value):aC {A with bF:=kS A.bF s v} D (w.setCell (J A.H (13+s)) v)∧Grow A.L w A.L (w.setCell (J A.H (13+s)) v):=by
 refine h.qi (A':={A with bF:=kS A.bF s v}) rfl (13+s) v ?_ (fun q hq=>by cases q<;>first|rfl|exact absurd rfl hq) rfl rfl rfl rfl rfl rfl rfl rfl
 match s,hs with
 |0,_|1,_|2,_|3,_|4,_|5,_|6,_|7,_=>rfl
theorem dI (A:au) (D:St) {s:Nat} (hs:s<8):(oD A D)[5+s]? =some (A.tp D s):=by
 match s,hs with
 |0,_|1,_|2,_|3,_|4,_|5,_|6,_|7,_=>rfl
theorem dP (A:au) (D:St) {s:Nat} (hs:s<8):(oD A D)[13+s]? =some (A.bF s):=by
 match s,hs with
 |0,_|1,_|2,_|3,_|4,_|5,_|6,_|7,_=>rfl
def au.AZ (A:au) (v:Value) (xs:List Value):au:={A with L:=wN A.L v .aT,jF:=v,gL:=xs}
theorem aC.NC {A:au} {D:St} {w Y:World} (h:aC A D w) (e:Ev) (vp v':Value) (hp:kW A.L w vp (bJ e.res.aO))
 (hg:w.grownBy Y A.jF.ownBlock) (ho:Y.ownsRow 0 62 12 v' (D.aT.length+1) (A.gL++ng e vp)) (hw:v'.ownBlock=A.jF.ownBlock∨∀ g,v'.ownBlock=some g->w.heap.size<=g):
 aC (A.AZ v' (A.gL++ng e vp)) (D.event e) (Y.setCell (J A.H 24) v')∧Grow A.L w (A.AZ v' (A.gL++ng e vp)).L (Y.setCell (J A.H 24) v')∧Y.cell? (J A.H 24)=some A.jF∧Y.frozen? (J A.H 24)=false:=by
 obtain⟨h1,g1⟩:=h.mem.grown .aT rfl hg ho hw;have e2:iF (bq A D) .aT (.own v' 62 12 (D.aT.length+1) (A.gL++ng e vp)) .df=.obj A.H (oD A D) 111:=rfl;have h2:=h1.put .df e2 24 v';have g:=g1.trans (h1.di e2 24 v');refine⟨⟨?_,?_,h.sl,h.nw,h.nt,h.nv,h.n8,h.nc⟩,g,h1.cell e2 24 rfl,h1.frozen e2 24⟩
 . refine h2.of_eq fun q=>?_
   cases q<;>first|rfl|skip
   simp[bq,iF,St.event,au.AZ]
 . exact (h.ev.grow g).snoc (hp.grow g)
theorem iI {A:au} {D:St} {s:Nat} {c:dN} (hc:D.calls.getD s none=some c):bq A D (.aO s)=.own (A.aY s) 152 2 c.r.aO.length (bJ c.r.aO):=by simp only[bq,hc]
structure au.Tk (A A':au) (s:Nat):Prop where
 H:A'.H=A.H
 ba:A'.ba=A.ba
 bw:A'.bw=A.bw
 bp:A'.bp=A.bp
 bs:A'.bs=A.bs
 bv:A'.bv=A.bv
 bt:A'.bt=A.bt
 bm:A'.bm=A.bm
 bx:A'.bx=A.bx
 eZ:A'.eZ=A.eZ
 jF:A'.jF=A.jF
 iV:A'.Ny=A.Ny
 dX:A'.dX=A.dX
 gL:A'.gL=A.gL
 bF:A'.bF=A.bF
 eH:A'.eH=A.eH
 fG:A'.fG=A.fG
 dY:A'.dY=A.dY
 mp:A'.mp=A.mp
 mt:A'.mt=A.mt
 lS:A'.lS=A.lS
 bc:∀ k,k≠s->A'.bc k=A.bc k
 bA:∀ k,k≠s->A'.bA k=A.bA k
 aY:∀ k,k≠s->A'.aY k=A.aY k
theorem qL {A A':au} {s:Nat} (h:A.Tk A' s) (D:St) {q:bU} (hq:q.cl≠some s):bq A' D q=bq A D q:=by
 have c1:A'.iV=A.iV:=congrArg (·.1) h.iV;have c2:A'.hcut=A.hcut:=congrArg (·.2.1) h.iV;have c3:A'.fP=A.fP:=congrArg (·.2.2.1) h.iV;have c4:A'.dV=A.dV:=congrArg (·.2.2.2) h.iV;have tp:∀ k,A'.tp D k=A.tp D k:=fun k=>by unfold au.tp;rw[h.bt]
 have tc:∀ k t,eO A' k t=eO A k t:=fun k t=>by simp only[eO,h.bm,h.eH,h.fG,h.dY,h.mt,h.lS]
 have me:∀ k t,gY A' k t=gY A k t:=fun k t=>by simp only[gY,h.bx]
 have cc:∀ k,k≠s->∀ c,fH A' k c=fH A k c:=fun k Z c=>by simp only[fH,h.bA k Z,h.aY k Z]
 cases q<;>simp only[bU.cl,ne_eq,Option.some.injEq,not_false_eq_true] at hq<;>first
  |(simp only[bq,oD,au.sv,o8,mo,zC,o9,tp,h.bF,h.H,h.ba,h.bw,h.bp,h.bs,h.bv,h.eZ,h.jF,c1,c2,c3,c4,h.dX,h.gL,h.bt,h.bm,h.bx,h.eH,h.fG,h.dY,h.mp,tc,me];done)
  |(simp only[bq,h.bc _ hq,cc _ hq];done)
  |(simp only[bq,h.aY _ hq];done)
theorem aC.sQ {A:au} {D:St} {w:World} (h:aC A D w) {s:Nat} {c:dN} (hc:D.calls.getD s none=some c) (v:Value) (k:Option K):
 aC {A with bA:=kS A.bA s v} (D.aK s {c with k:=k}) (w.setCell (J (A.bc s) 4) v)∧Grow A.L w A.L (w.setCell (J (A.bc s) 4) v):=by
 have g:=h.mem.di (lT hc) 4 v;refine⟨⟨h.mem.set (.call s) (lT hc) 4 v ?_ ?_,h.ev.grow g,h.sl,h.nw,h.nt,h.nv,h.n8,by simpa [St.aK] using h.nc⟩,g⟩
 . rw[jX _ _ (s:=s) rfl,dm (bP hc),aV rfl]
   simp[nM,fH,kS]
 . intro q hq
   by_cases hs:q.cl=some s
   . rw[jX _ _ hs,jX A _ hs,dm (bP hc),aV rfl,hc]
     cases q<;>simp[bU.cl] at hs<;>subst hs<;>first|exact absurd rfl hq|(simp[nM];done)
   . rw[mO _ hc _ hs]
     exact qL (A:=A) (A':={A with bA:=kS A.bA s v}) ⟨rfl,rfl,rfl,rfl,rfl,rfl,rfl,rfl,rfl,rfl,rfl,rfl,rfl,rfl,rfl,rfl,rfl,rfl,rfl,rfl,rfl,fun _ _=>rfl,fun k Z=>bH _ _ Z,fun _ _=>rfl⟩ D hs
def au.sS (A:au) (s:Nat) (v:Value):au:={A with L:=wN A.L v (.aO s),aY:=kS A.aY s v}
theorem aC.ND {A:au} {D:St} {w Y:World} (h:aC A D w) {s:Nat} {c:dN} (hc:D.calls.getD s none=some c) (l:List (Nat×Nat)) (v':Value)
 (hg:w.grownBy Y (A.aY s).ownBlock) (ho:Y.ownsRow 0 152 2 v' l.length (bJ l)) (hw:v'.ownBlock=(A.aY s).ownBlock∨∀ g,v'.ownBlock=some g->w.heap.size<=g):
 aC (A.sS s v') (D.aK s {c with r:={c.r with aO:=l}}) (Y.setCell (J (A.bc s) 7) v')∧Grow A.L w (A.sS s v').L (Y.setCell (J (A.bc s) 7) v')∧Y.cell? (J (A.bc s) 7)=some (A.aY s)∧Y.frozen? (J (A.bc s) 7)=false:=by
 obtain⟨h1,g1⟩:=h.mem.grown (.aO s) (iI hc) hg ho hw;have e2:iF (bq A D) (.aO s) (.own v' 152 2 l.length (bJ l)) (.call s)=.obj (A.bc s) (fH A s c) 141:=by rw[bQ _ _ (by simp),lT hc]
 have h2:=h1.put (.call s) e2 7 v';have g:=g1.trans (h1.di e2 7 v');refine⟨⟨?_,h.ev.grow g,h.sl,h.nw,h.nt,h.nv,h.n8,by simpa [St.aK] using h.nc⟩,g,h1.cell e2 7 rfl,h1.frozen e2 7⟩;refine h2.of_eq fun q=>?_
 by_cases hs:q.cl=some s
 . rw[jX _ _ hs,dm (bP hc),aV rfl]
   unfold iF;rw[jX A _ hs,hc]
   cases q<;>simp[bU.cl] at hs<;>subst hs<;>simp[nM,fH,au.sS,kS]
 . have e3:q≠.aO s:=by rintro rfl;exact hs rfl
   have e4:q≠.call s:=by rintro rfl;exact hs rfl
   rw[bQ _ _ e4,bQ _ _ e3,mO _ hc _ hs];exact qL (A:=A) (A':=A.sS s v') ⟨rfl,rfl,rfl,rfl,rfl,rfl,rfl,rfl,rfl,rfl,rfl,rfl,rfl,rfl,rfl,rfl,rfl,rfl,rfl,rfl,rfl,fun _ _=>rfl,fun _ _=>rfl,fun k Z=>bH _ _ Z⟩ D hs
end Go.Proofs.YthicolbbmjfkfaaGreat.Em
namespace Go.Proofs.YthicolbbmjfkfaaGreat.Em
open Go.ChangeShapes Go.WideShapes Go.ChangeAt Go.RowKit En
theorem Holds.none {L:dE} {w:World} {m m':bU->Entry} (h:Holds L w m) (e:∀ q,m' q=m q∨m' q=.none):Holds L w m':=
 ⟨fun q=>by rcases e q with e|e<;>rw[e];exact h.all q;trivial,h.fresh⟩
def sets (cs:List Value):Nat->List Value->List Value
 |_,[]=>cs
 |o,v::r=>sets (cs.set o v) (o+1) r
theorem Hr {m:bU->Entry} {r:bU} {e:Entry} (he:m r=e) (q:bU):iF m r e q=m q:=by
 unfold iF
 split
 . rename_i hq;rw[hq,he]
 . rfl
theorem Holds.puts {L:dE} (r:bU) {b:Nat} {T:TypeId} (hr:r≠.tmp):∀ (vs:List Value) (o:Nat) {w:World} {m:bU->Entry} {cs:List Value},Holds L w m->m r=.obj b cs T->
 Holds L (w.setCells b o vs) (iF m r (.obj b (sets cs o vs) T))∧Grow L w L (w.setCells b o vs)
 |[],o,w,m,cs,h,he=>⟨h.of_eq (Hr he),Grow.refl _ _⟩
 |v::vs,o,w,m,cs,h,he=>by
  have h1:=h.put r he o v;have g1:=h.di he o v hr;obtain⟨h2,g2⟩:=Holds.puts r hr vs (o+1) h1 (gF _ _ _);refine⟨?_,g1.trans g2⟩;refine h2.of_eq fun q=>?_
  by_cases hq:q=r
  . subst hq;rw[gF,gF];rfl
  . rw[bQ _ _ hq,bQ _ _ hq,bQ _ _ hq]
def au.sU (A:au) (s:Nat) (v:Value):au:={A with aY:=kS A.aY s v}
theorem aC.QB {A:au} {D:St} {w:World} (h:aC A D w) {s:Nat} {c:dN} (hc:D.calls.getD s none=some c) (r:oZ) (vp:Value)
 (hp:(vp=A.aY s∧r.aO=c.r.aO)∨(vp=.slice none 0 0∧r.aO=[])):
 aC (A.sU s vp) (D.aK s {c with r:=r}) (w.setCells (A.bc s) 5 [i64 r.e,i64 r.value,vp,i64 r.over,i64 r.aQ])∧Grow A.L w A.L (w.setCells (A.bc s) 5 [i64 r.e,i64 r.value,vp,i64 r.over,i64 r.aQ]):=by
 have h1:Holds A.L w (iF (bq A D) (.aO s) (.own vp 152 2 r.aO.length (bJ r.aO))):=by
  rcases hp with ⟨rfl,e⟩|⟨rfl,e⟩
  . rw[e]
    exact h.mem.of_eq (Hr (iI hc))
  . rw[e]
    exact h.mem.shrink (.aO s) (iI hc) (World.ownsRow_nil w 0 152 2) (.inr rfl)
 have e2:iF (bq A D) (.aO s) (.own vp 152 2 r.aO.length (bJ r.aO)) (.call s)=.obj (A.bc s) (fH A s c) 141:=by rw[bQ _ _ (by simp),lT hc]
 obtain⟨h2,g⟩:=Holds.puts (.call s) (by simp) [i64 r.e,i64 r.value,vp,i64 r.over,i64 r.aQ] 5 h1 e2;refine⟨⟨?_,h.ev.grow g,h.sl,h.nw,h.nt,h.nv,h.n8,by simpa [St.aK] using h.nc⟩,g⟩;refine h2.of_eq fun q=>?_
 by_cases hs:q.cl=some s
 . rw[jX _ _ hs,dm (bP hc),aV rfl]
   unfold iF;rw[jX A _ hs,hc]
   cases q<;>simp[bU.cl] at hs<;>subst hs<;>simp[nM,fH,au.sU,kS,sets]
 . have e3:q≠.aO s:=by rintro rfl;exact hs rfl
   have e4:q≠.call s:=by rintro rfl;exact hs rfl
   rw[bQ _ _ e4,bQ _ _ e3,mO _ hc _ hs];exact qL (A:=A) (A':=A.sU s vp) ⟨rfl,rfl,rfl,rfl,rfl,rfl,rfl,rfl,rfl,rfl,rfl,rfl,rfl,rfl,rfl,rfl,rfl,rfl,rfl,rfl,rfl,fun _ _=>rfl,fun _ _=>rfl,fun k Z=>bH _ _ Z⟩ D hs
theorem aC.Cz {A:au} {D:St} {w:World} (h:aC A D w) (s:Nat):aC A {D with calls:=D.calls.set s none} w:=by
 refine⟨h.mem.none fun q=>?_,h.ev,h.sl,h.nw,h.nt,h.nv,h.n8,by simpa using h.nc⟩
 cases q<;>first|exact .inl rfl|skip
 all_goals
  rename_i k;simp only[bq,mM,List.getElem?_set]
  by_cases Z:s=k
  . right;subst Z;rw[aV rfl];by_cases Z:s<D.calls.length<;>simp[Z]
  . left;rw[aR Z]
theorem aC.NF {A:au} {D:St} {w:World} (h:aC A D w) {s:Nat} (hs:s<8):aC A {D with aj:=D.aj.set s none} (w.setCell (J A.H (5+s)) (.pointer none))∧Grow A.L w A.L (w.setCell (J A.H (5+s)) (.pointer none)):=by
 have g:=h.mem.di (r:=.df) rfl (5+s) (.pointer none);have h1:=h.mem.put .df rfl (5+s) (.pointer none);have n8:=h.n8;refine⟨⟨h1.none fun q=>?_,h.ev.grow g,h.sl,h.nw,h.nt,h.nv,by simpa using h.n8,h.nc⟩,g⟩;have ge:∀ k,(D.aj.set s none).getD k none=if k=s then none else D.aj.getD k none:=fun k=>kH _ _ _ _ _ (by omega)
 have tp:∀ k,A.tp {D with aj:=D.aj.set s none} k=if k=s then .pointer none else A.tp D k:=by
  intro k;unfold au.tp;simp only[ge];by_cases Z:k=s<;>simp[Z]
 cases q<;>first|exact .inl rfl|skip
 case df=>
  left;simp only[iF,aV,bq,oD,tp]
  match s,hs with
  |0,_|1,_|2,_|3,_|4,_|5,_|6,_|7,_=>rfl
 all_goals
  simp only[bq,iF,ge]
  first
   | (rename_i k; by_cases Z : k = s
      . right;rw[aV Z]
      . left;rw[aR Z];simp)
   | (rename_i k j; by_cases Z : k = s
      . right;rw[aV Z];rfl
      . left;rw[aR Z];simp)
end Go.Proofs.YthicolbbmjfkfaaGreat.Em
namespace Go.Proofs.YthicolbbmjfkfaaGreat.Em
open Go.ChangeShapes Go.WideShapes Go.ChangeAt Go.RowKit En
/- Pairs of cells. -/
theorem Ba (l:List (Value×Value)) (i:Nat) {p:Value×Value} (h:l[i]? =some p):(two l)[2*i]? =some p.1∧(two l)[2*i+1]? =some p.2:=by
 induction l generalizing i with
 |nil=>simp at h
 |cons a l ih=>
  cases i with
  |zero=>simp at h;subst h;exact⟨rfl,rfl⟩
  |succ i=>
   have:=ih i (by simpa using h);have e1:2*(i+1)=2*i+1+1:=by omega
   simp only[two,List.flatMap_cons,e1] at*;exact⟨by simpa using this.1,by simpa using this.2⟩
theorem wP (l:List (Value×Value)) (i:Nat) (v:Value) {p:Value×Value} (h:l[i]? =some p):(two l).set (2*i+1) v=two (l.set i (p.1,v)):=by
 induction l generalizing i with
 |nil=>simp at h
 |cons a l ih=>
  cases i with
  |zero=>simp at h;subst h;rfl
  |succ i=>
   have:=ih i (by simpa using h);have e1:2*(i+1)+1=2*i+1+1+1:=by omega
   simp only[two,List.flatMap_cons,e1,List.set_cons_succ] at*
   simpa using this
theorem CB (l:List (Value×Value)) (i:Nat) (v:Value) {p:Value×Value} (h:l[i]? =some p):(two l).set (2*i) v=two (l.set i (v,p.2)):=by
 induction l generalizing i with
 |nil=>simp at h
 |cons a l ih=>
  cases i with
  |zero=>simp at h;subst h;rfl
  |succ i=>
   have:=ih i (by simpa using h);have e1:2*(i+1)=2*i+1+1:=by omega
   simp only[two,List.flatMap_cons,e1,List.set_cons_succ] at*
   simpa using this
theorem Fa (l:List (Value×Value)):(two l).length=2*l.length:=by
 induction l with
 |nil=>rfl
 |cons a l ih=>simp only[two,List.flatMap_cons,jR,List.length_cons,List.length_nil] at *;omega
theorem aC.role {A:au} {D bB:St} {w E:World} (h:aC A D w) (hm:Holds A.L E (bq A bB)) (g:Grow A.L w A.L E) (h0:bB.aT=D.aT) (h1:bB.aF=D.aF) (h2:bB.words.length=D.words.length) (h3:bB.tags.length=D.tags.length) (h4:bB.values.length=D.values.length) (h5:bB.aj.length=D.aj.length) (h6:bB.calls.length=D.calls.length):aC A bB E:=
 ⟨hm,by rw[h0];exact h.ev.grow g,by rw[h1];exact h.sl,by rw[h2,h1];exact h.nw,by rw[h3,h1];exact h.nt,by rw[h4,h1];exact h.nv,h5.trans h.n8,h6.trans h.nc⟩
theorem mW {α:Type} (l:List α) (i:Nat) (d:α) (h:i<l.length):l[i]? =some (l.getD i d):=by simp[mM,h]
theorem aC.val {A:au} {D:St} {w:World} (h:aC A D w) {i:Nat} (hi:i<D.aF):w.cell? ⟨A.bv,2*i,none⟩=some (I ((D.values.getD i (0,0)).1:Int))∧w.cell? ⟨A.bv,2*i+1,none⟩=some (I ((D.values.getD i (0,0)).2:Int)):=by
 have e:(D.values.map fun p=>(i64 p.1,i64 p.2))[i]? =some (i64 (D.values.getD i (0,0)).1,i64 (D.values.getD i (0,0)).2):=by
  rw[List.getElem?_map,mW D.values i (0,0) (by rw[h.nv];exact hi)];rfl
 have:=Ba _ i e;exact⟨h.mem.cell (r:=.values) rfl _ this.1,h.mem.cell (r:=.values) rfl _ this.2⟩
theorem aC.Tm {A:au} {D:St} {w:World} (h:aC A D w) (i:Nat):w.frozen? (J A.bv i)=false:=h.mem.frozen (r:=.values) rfl i
theorem oF (A:au) (D:St) (l:List (Nat×Nat)) {q:bU} (hq:q≠.values):bq A {D with values:=l} q=bq A D q:=by cases q<;>first|rfl|exact absurd rfl hq
theorem aC.QC {A:au} {D:St} {w:World} (h:aC A D w) {i:Nat} (hi:i<D.aF) (n:Nat):
 aC A {D with values:=D.values.set i ((D.values.getD i (0,0)).1,n)} (w.setCell ⟨A.bv,2*i+1,none⟩ (I n))∧Grow A.L w A.L (w.setCell ⟨A.bv,2*i+1,none⟩ (I n)):=by
 have g:=h.mem.di (r:=.values) rfl (2*i+1) (I n);have e:(D.values.map fun p=>(i64 p.1,i64 p.2))[i]? =some (i64 (D.values.getD i (0,0)).1,i64 (D.values.getD i (0,0)).2):=by
  rw[List.getElem?_map,mW D.values i (0,0) (by rw[h.nv];exact hi)];rfl
 refine⟨h.role (h.mem.set .values rfl _ _ ?_ fun q hq=>oF A D _ hq) g rfl rfl rfl rfl (by simp) rfl rfl,g⟩;show Entry.obj A.bv (two _) 190=_;rw[o9,wP _ _ _ e,List.map_set]
theorem aC.QD {A:au} {D:St} {w:World} (h:aC A D w) {i:Nat} (hi:i<D.aF) (k n:Nat):
 aC A {D with values:=D.values.set i (k,n)} (w.setCells A.bv (2*i) [I k,I n])∧Grow A.L w A.L (w.setCells A.bv (2*i) [I k,I n]):=by
 have e:(D.values.map fun p=>(i64 p.1,i64 p.2))[i]? =some (i64 (D.values.getD i (0,0)).1,i64 (D.values.getD i (0,0)).2):=by
  rw[List.getElem?_map,mW D.values i (0,0) (by rw[h.nv];exact hi)];rfl
 obtain⟨h2,g⟩:=Holds.puts .values (by simp) [I k,I n] (2*i) h.mem (m:=bq A D) (cs:=o9 D) (b:=A.bv) (T:=190) rfl;refine⟨h.role (h2.of_eq fun q=>?_) g rfl rfl rfl rfl (by simp) rfl rfl,g⟩
 by_cases hq:q=.values
 . subst hq
   rw[gF];show Entry.obj A.bv (two _) 190=_;have e2:((D.values.map fun p=>(i64 p.1,i64 p.2)).set i (I k,i64 (D.values.getD i (0,0)).2))[i]? =some (I k,i64 (D.values.getD i (0,0)).2):=by
    rw[List.getElem?_set];simp[h.nv,hi]
   simp only[sets,o9];rw[CB _ _ _ e,wP _ _ _ e2,List.map_set,List.set_set]
 . rw[bQ _ _ hq,oF A D _ hq]
/- The pool. -/
theorem aC.tag {A:au} {D:St} {w:World} (h:aC A D w) {i:Nat} (hi:i<D.aF):w.cell? ⟨A.bs,2*i,none⟩=some (I ((D.tags.getD i (0,false)).1:Int))∧w.cell? ⟨A.bs,2*i+1,none⟩=some (.bool (D.tags.getD i (0,false)).2):=by
 have e:(D.tags.map fun p=>(i64 p.1,Value.bool p.2))[i]? =some (i64 (D.tags.getD i (0,false)).1,Value.bool (D.tags.getD i (0,false)).2):=by
  rw[List.getElem?_map,mW D.tags i (0,false) (by rw[h.nt];exact hi)];rfl
 have:=Ba _ i e;exact⟨h.mem.cell (r:=.tags) rfl _ this.1,h.mem.cell (r:=.tags) rfl _ this.2⟩
theorem aC.QE {A:au} {D:St} {w:World} (h:aC A D w) (i:Nat):w.frozen? (J A.bs i)=false:=h.mem.frozen (r:=.tags) rfl i
theorem qm (A:au) (D:St) (l:List (Nat×Bool)) {q:bU} (hq:q≠.tags):bq A {D with tags:=l} q=bq A D q:=by cases q<;>first|rfl|exact absurd rfl hq
theorem aC.CE {A:au} {D:St} {w:World} (h:aC A D w) {i:Nat} (hi:i<D.aF) (b:Bool):
 aC A {D with tags:=D.tags.set i ((D.tags.getD i (0,false)).1,b)} (w.setCell ⟨A.bs,2*i+1,none⟩ (.bool b))∧Grow A.L w A.L (w.setCell ⟨A.bs,2*i+1,none⟩ (.bool b)):=by
 have g:=h.mem.di (r:=.tags) rfl (2*i+1) (.bool b);have e:(D.tags.map fun p=>(i64 p.1,Value.bool p.2))[i]? =some (i64 (D.tags.getD i (0,false)).1,Value.bool (D.tags.getD i (0,false)).2):=by
  rw[List.getElem?_map,mW D.tags i (0,false) (by rw[h.nt];exact hi)];rfl
 refine⟨h.role (h.mem.set .tags rfl _ _ ?_ fun q hq=>qm A D _ hq) g rfl rfl rfl (by simp) rfl rfl rfl,g⟩;show Entry.obj A.bs (two _) 243=_;rw[zC,wP _ _ _ e,List.map_set]
theorem aC.QF {A:au} {D:St} {w:World} (h:aC A D w) {i:Nat} (hi:i<D.aF) (n:Nat):
 aC A {D with tags:=D.tags.set i (n,(D.tags.getD i (0,false)).2)} (w.setCell ⟨A.bs,2*i,none⟩ (I n))∧Grow A.L w A.L (w.setCell ⟨A.bs,2*i,none⟩ (I n)):=by
 have g:=h.mem.di (r:=.tags) rfl (2*i) (I n);have e:(D.tags.map fun p=>(i64 p.1,Value.bool p.2))[i]? =some (i64 (D.tags.getD i (0,false)).1,Value.bool (D.tags.getD i (0,false)).2):=by
  rw[List.getElem?_map,mW D.tags i (0,false) (by rw[h.nt];exact hi)];rfl
 refine⟨h.role (h.mem.set .tags rfl _ _ ?_ fun q hq=>qm A D _ hq) g rfl rfl rfl (by simp) rfl rfl rfl,g⟩;show Entry.obj A.bs (two _) 243=_;rw[zC,CB _ _ _ e,List.map_set]
theorem aC.bO {A:au} {D:St} {w:World} (h:aC A D w) (i:Nat) {v:Value} (hv:(mo A D)[i]? =some v):w.cell? (J A.bp i)=some v:=h.mem.cell (r:=.bO) rfl i hv
theorem aC.wQ {A:au} {D:St} {w:World} (h:aC A D w) (i:Nat):w.frozen? (J A.bp i)=false:=h.mem.frozen (r:=.bO) rfl i
def au.Ht (A:au) (v:Value):au:={A with L:=wN A.L v .free,eZ:=v}
theorem aC.QG {A:au} {D:St} {w Y:World} (h:aC A D w) (l:List Nat) (v':Value)
 (hg:w.grownBy Y A.eZ.ownBlock) (ho:Y.ownsRow 0 3 1 v' l.length (l.map i64)) (hw:v'.ownBlock=A.eZ.ownBlock∨∀ g,v'.ownBlock=some g->w.heap.size<=g):
 aC (A.Ht v') {D with free:=l} (Y.setCell (J A.bp 2) v')∧Grow A.L w (A.Ht v').L (Y.setCell (J A.bp 2) v')∧Y.cell? (J A.bp 2)=some A.eZ∧Y.frozen? (J A.bp 2)=false:=by
 obtain⟨h1,g1⟩:=h.mem.grown .free rfl hg ho hw;have e2:iF (bq A D) .free (.own v' 3 1 l.length (l.map i64)) .bO=.obj A.bp (mo A D) 208:=rfl;have h2:=h1.put .bO e2 2 v';have g:=g1.trans (h1.di e2 2 v');refine⟨⟨h2.of_eq fun q=>?_,h.ev.grow g,h.sl,h.nw,h.nt,h.nv,h.n8,h.nc⟩,g,h1.cell e2 2 rfl,h1.frozen e2 2⟩
 cases q<;>rfl
theorem aC.NG {A:au} {D:St} {w:World} (h:aC A D w) (l:List Nat) (v':Value) (ho:w.ownsRow 0 3 1 v' l.length (l.map i64)) (hv:v'.ownBlock=A.eZ.ownBlock):
 aC {A with eZ:=v'} {D with free:=l} (w.setCell (J A.bp 2) v')∧Grow A.L w A.L (w.setCell (J A.bp 2) v'):=by
 have h1:=h.mem.shrink .free (m:=bq A D) rfl ho (.inl hv);have e2:iF (bq A D) .free (.own v' 3 1 l.length (l.map i64)) .bO=.obj A.bp (mo A D) 208:=rfl;have h2:=h1.put .bO e2 2 v';have g:=h1.di e2 2 v';refine⟨⟨h2.of_eq fun q=>?_,h.ev.grow g,h.sl,h.nw,h.nt,h.nv,h.n8,h.nc⟩,g⟩
 cases q<;>rfl
theorem aC.NH {A:au} {D:St} {w:World} (h:aC A D w) (n:Nat):aC A {D with ja:=n} (w.setCell (J A.bp 3) (I n))∧Grow A.L w A.L (w.setCell (J A.bp 3) (I n)):=by
 have g:=h.mem.di (r:=.bO) rfl 3 (I n);exact⟨h.role (h.mem.set .bO rfl _ _ rfl fun q hq=>by cases q<;>first|rfl|exact absurd rfl hq) g rfl rfl rfl rfl rfl rfl rfl,g⟩
theorem QH (A:au) (D:St) (m:Int) {q:bU} (hq:q≠.bO):bq {A with mp:=m} D q=bq A D q:=by cases q<;>first|rfl|exact absurd rfl hq
theorem aC.CF {A:au} {D:St} {w:World} (h:aC A D w) (m:Int):aC {A with mp:=m} D (w.setCell (J A.bp 5) (.int .i32 m))∧Grow A.L w A.L (w.setCell (J A.bp 5) (.int .i32 m)):=by
 have g:=h.mem.di (r:=.bO) rfl 5 (.int .i32 m);exact⟨⟨h.mem.set .bO rfl _ _ rfl fun q hq=>QH A D m hq,h.ev.grow g,h.sl,h.nw,h.nt,h.nv,h.n8,h.nc⟩,g⟩
theorem aC.Kz {A:au} {D:St} {w:World} (h:aC A D w):aC A {D with listed:=true} (w.setCell (J A.bp 4) (.int .u32 1))∧Grow A.L w A.L (w.setCell (J A.bp 4) (.int .u32 1)):=by
 have g:=h.mem.di (r:=.bO) rfl 4 (.int .u32 1);exact⟨h.role (h.mem.set .bO rfl _ _ rfl fun q hq=>by cases q<;>first|rfl|exact absurd rfl hq) g rfl rfl rfl rfl rfl rfl rfl,g⟩
end Go.Proofs.YthicolbbmjfkfaaGreat.Em
namespace Go.Proofs.YthicolbbmjfkfaaGreat.Em
open Go.ChangeShapes Go.WideShapes Go.ChangeAt Go.RowKit En
theorem pg (l:List (Nat×kP)) (F:Nat) (x:kP) (k:Nat):(upd l F x).lookup k=if k=F then (l.lookup k).map (fun _=>x) else l.lookup k:=by
 induction l with
 |nil=>simp[upd]
 |cons p l ih=>
  obtain⟨a,y⟩:=p;simp only[upd,List.map_cons] at*
  by_cases h1:a=F
  . subst h1
    simp only[aV,List.lookup_cons]
    by_cases h2:k=a
    . subst h2;simp
    . simp only[beq_false_of_ne h2,ih,aR h2]
  . simp only[aR h1,List.lookup_cons]
    by_cases h2:k=a
    . subst h2;simp[h1]
    . simp only[beq_false_of_ne h2,ih]
theorem I5 (A:au) (s:Nat) (t:bL) (F:Nat) (x:kP):gY A s {t with cells:=upd t.cells F x}=gY A s t:=by
 have e:(upd t.cells F x).map (·.1)=t.cells.map (·.1):=by
  unfold upd;rw[List.map_map];refine List.map_congr_left fun p _=>?_
  simp only[Function.comp]
  split
  . rename_i h;exact h.symm
  . rfl
 have e2:∀ (l:List (Nat×kP)),(l.reverse.zipIdx.map fun p=>(⟨i64 p.1.1,ptr (A.bx s p.1.1),p.2⟩:MapEntry))=((l.map (·.1)).reverse.zipIdx.map fun p=>(⟨i64 p.1,ptr (A.bx s p.1),p.2⟩:MapEntry)):=by
  intro l;rw[<-List.map_reverse,List.zipIdx_map];simp[List.map_map,Function.comp_def]
 unfold gY;rw[e2,e2];simp only;rw[e]
theorem oG {A:au} {D:St} {s:Nat} {t:bL} (ht:D.aj.getD s none=some t) {F:Nat} {x:kP} (hx:t.cell F=some x):bq A D (.cell s F)=.obj (A.bx s F) (sJ x) 225:=by
 simp only[bq,ht,Option.bind_some,hx]
theorem aC.Fb {A:au} {D:St} {w:World} (h:aC A D w) {s:Nat} {t:bL} (ht:D.aj.getD s none=some t) {F:Nat} {x:kP} (hx:t.cell F=some x):
 zV w (A.bx s F) 0 x.own∧zV w (A.bx s F) 1 x.old∧zB w (A.bx s F) 2 x.there:=
 ⟨h.mem.cell (oG ht hx) 0 rfl,h.mem.cell (oG ht hx) 1 rfl,h.mem.cell (oG ht hx) 2 rfl⟩
theorem aC.I6 {A:au} {D:St} {w:World} (h:aC A D w) {s:Nat} {t:bL} (ht:D.aj.getD s none=some t) {F:Nat} {x:kP} (hx:t.cell F=some x) (i:Nat):w.frozen? (J (A.bx s F) i)=false:=h.mem.frozen (oG ht hx) i
theorem aC.uD {A:au} {D:St} {w:World} (h:aC A D w) {s:Nat} {t:bL} (ht:D.aj.getD s none=some t) {F:Nat} {x:kP} (hx:t.cell F=some x) (x':kP) (i:Nat) (v:Value) (hcs:sJ x'=(sJ x).set i v):
 aC A (D.bK s {t with cells:=upd t.cells F x'}) (w.setCell (J (A.bx s F) i) v)∧Grow A.L w A.L (w.setCell (J (A.bx s F) i) v):=by
 have g:=h.mem.di (oG ht hx) i v;refine⟨h.role (h.mem.set (.cell s F) (oG ht hx) i v ?_ ?_) g rfl rfl rfl rfl rfl (by simp[St.bK]) rfl,g⟩
 . rw[iH A _ (s:=s) rfl,dC (dB ht),aV rfl]
   have:(upd t.cells F x').lookup F=some x':=by rw[pg,aV rfl];unfold bL.cell at hx;rw[hx];rfl
   simp only[gT,Option.bind_some,bL.cell,this,hcs]
 . intro q hq
   by_cases hs:q.tx=some s
   . rw[iH A _ hs,iH A _ hs,dC (dB ht),aV rfl,ht]
     cases q<;>simp[bU.tx] at hs<;>subst hs<;>first|rfl|skip
     . simp only[gT,I5];simp[upd]
     . rename_i k
       have Z:k≠F:=by rintro rfl;exact hq rfl
       simp only[gT,Option.bind_some,bL.cell,pg,aR Z]
   . exact jw A ht _ hs
theorem sV {A A':au} {s:Nat} (h:A.P9 A' s) (h1:A'.bm=A.bm) (h2:A'.bx=A.bx) (h3:A'.eH=A.eH) (h4:A'.fG=A.fG) (h5:A'.dY=A.dY) (D:St) {q:bU} (hq:q≠.fw s):bq A' D q=bq A D q:=by
 by_cases hs:q.tx=some s
 . rw[iH _ _ hs,iH _ _ hs]
   cases q<;>simp[bU.tx] at hs<;>subst hs<;>first|exact absurd rfl hq|(simp only[gT,h1,h2,h3,h4,h5,gY];done)
 . exact mU h D hs
theorem aC.Hu {A:au} {D:St} {w:World} (h:aC A D w) {s:Nat} {t:bL} (ht:D.aj.getD s none=some t) (m:Int):aC {A with mt:=fun k=>if k=s then m else A.mt k} D (w.setCell (J (A.bt s) 11) (.int .i32 m))∧Grow A.L w A.L (w.setCell (J (A.bt s) 11) (.int .i32 m)):=by
 have g:=h.mem.di (jr ht) 11 (.int .i32 m);refine⟨⟨h.mem.set (.fw s) (jr ht) _ _ ?_ fun q hq=>?_,h.ev.grow g,h.sl,h.nw,h.nt,h.nv,h.n8,h.nc⟩,g⟩
 . rw[jr ht];simp[eO,jb]
 . exact sV (A:=A) (A':={A with mt:=fun k=>if k=s then m else A.mt k}) (s:=s) ⟨rfl,rfl,rfl,rfl,rfl,rfl,rfl,rfl,rfl,rfl,rfl,rfl,rfl,rfl,rfl,rfl,rfl,fun _ _=>rfl,fun _ _=>rfl,fun _ _=>rfl,fun _ _=>rfl,fun _ _=>rfl,fun k Z=>aR Z,fun _ _=>rfl⟩ rfl rfl rfl rfl rfl D hq
theorem aC.NI {A:au} {D:St} {w:World} (h:aC A D w) {s:Nat} {t:bL} (ht:D.aj.getD s none=some t) (b:Bool):aC {A with lS:=fun k=>if k=s then b else A.lS k} D (w.setCell (J (A.bt s) 13) (.bool b))∧Grow A.L w A.L (w.setCell (J (A.bt s) 13) (.bool b)):=by
 have g:=h.mem.di (jr ht) 13 (.bool b);refine⟨⟨h.mem.set (.fw s) (jr ht) _ _ ?_ fun q hq=>?_,h.ev.grow g,h.sl,h.nw,h.nt,h.nv,h.n8,h.nc⟩,g⟩
 . rw[jr ht];simp[eO,jb]
 . exact sV (A:=A) (A':={A with lS:=fun k=>if k=s then b else A.lS k}) (s:=s) ⟨rfl,rfl,rfl,rfl,rfl,rfl,rfl,rfl,rfl,rfl,rfl,rfl,rfl,rfl,rfl,rfl,rfl,fun _ _=>rfl,fun _ _=>rfl,fun _ _=>rfl,fun _ _=>rfl,fun _ _=>rfl,fun _ _=>rfl,fun k Z=>aR Z⟩ rfl rfl rfl rfl rfl D hq
theorem aC.NJ {A:au} {D:St} {w:World} (h:aC A D w) {s:Nat} {t:bL} (ht:D.aj.getD s none=some t):aC A (D.bK s {t with over:=true}) (w.setCell (J (A.bt s) 10) (.int .u32 1))∧Grow A.L w A.L (w.setCell (J (A.bt s) 10) (.int .u32 1)):=
 h.E9 ht {t with over:=true} 10 (.int .u32 1) (by simp[eO,jb]) rfl rfl rfl rfl
def au.gU (A:au) (s b:Nat) (v:Value):au:={A with L:=kD A.L b (.call s),bc:=fun k=>if k=s then b else A.bc k,bA:=kS A.bA s v,aY:=kS A.aY s (.slice none 0 0)}
theorem vB {L:dE} {w Y:World} (hB:Below w.heap.size w Y) {b:Nat} (hb:w.heap.size<=b) (r:bU):Grow L w (kD L b r) Y:=(Grow.below hB).kD hb r
theorem aC.gU {A:au} {D:St} {w Y:World} (h:aC A D w) (hB:Below w.heap.size w Y) {s b:Nat} (hs:s<8) (hb:w.heap.size<=b) (v:Value) (c:dN) (hc:c.r.aO=[]) (he:Y.heap[b]? =some (.cells (fH (A.gU s b v) s c).toArray 141)) (hn:D.calls.getD s none=none):
 aC (A.gU s b v) (D.aK s c) Y∧Grow A.L w (A.gU s b v).L Y:=by
 have hlt:b<Y.heap.size:=fA he;have g:Grow A.L w (kD A.L b (.call s)) Y:=vB hB hb _;have h1:=(h.mem.below hB).Cy (.call s) (h.mem.fresh b hb) (.obj b (fH (A.gU s b v) s c) 141) ⟨kU _ _ _,he⟩ hlt;refine⟨⟨?_,h.ev.grow g,h.sl,h.nw,h.nt,h.nv,h.n8,by simpa [St.aK] using h.nc⟩,g⟩;have h2:Holds (kD A.L b (.call s)) Y (iF (iF (bq A D) (.call s) (.obj b (fH (A.gU s b v) s c) 141)) (.aO s) (.own (.slice none 0 0) 152 2 0 [])):=by
  refine⟨fun q=>?_,h1.fresh⟩
  by_cases hq:q=.aO s
  . subst hq;rw[gF];exact⟨World.ownsRow_nil Y 0 152 2,fun g hg=>by cases hg⟩
  . rw[bQ _ _ hq];exact h1.all q
 refine h2.of_eq fun q=>?_
 by_cases hs2:q.cl=some s
 . rw[jX _ _ hs2,dm (by rw[h.nc];exact hs),aV rfl]
   cases q<;>simp[bU.cl] at hs2<;>subst hs2<;>simp[nM,iF,au.gU,kS,hc,bJ,two]
 . have e3:q≠.aO s:=by rintro rfl;exact hs2 rfl
   have e4:q≠.call s:=by rintro rfl;exact hs2 rfl
   rw[bQ _ _ e3,bQ _ _ e4];have:=qL (A:=A) (A':=A.gU s b v) ⟨rfl,rfl,rfl,rfl,rfl,rfl,rfl,rfl,rfl,rfl,rfl,rfl,rfl,rfl,rfl,rfl,rfl,rfl,rfl,rfl,rfl,fun k Z=>aR Z,fun k Z=>bH _ _ Z,fun k Z=>bH _ _ Z⟩ (D.aK s c) hs2;rw[this]
   cases hq:q.cl with
   |none=>cases q<;>first|rfl|(simp[bU.cl] at hq;done)
   |some k=>
    have Z:k≠s:=by rintro rfl;exact hs2 hq
    rw[jX A _ hq,jX A _ hq,dm (by rw[h.nc];exact hs),aR Z]
def au.gB (A:au) (s b m:Nat):au:=
 {A with L:=kD (kD A.L b (.fw s)) m (.map s),bt:=fun k=>if k=s then b else A.bt k,bm:=fun k=>if k=s then m else A.bm k,eH:=kS A.eH s (.slice none 0 0),fG:=kS A.fG s (.slice none 0 0),dY:=kS A.dY s (.slice none 0 0),mt:=fun k=>if k=s then 0 else A.mt k,lS:=fun k=>if k=s then false else A.lS k}
def au.jY (A:au) (s F b:Nat):au:={A with L:=kD A.L b (.cell s F),bx:=fun k j=>if k=s∧j=F then b else A.bx k j}
theorem Fe (A:au) (s:Nat) (t:bL) (F b:Nat) (x:kP) (hx:∀ p∈t.cells,p.1≠F):gY (A.jY s F b) s {t with cells:=(F,x)::t.cells}=gY A s t++[⟨i64 F,ptr b,t.cells.length⟩]:=by
 unfold gY;rw[List.reverse_cons,List.zipIdx_append,List.map_append]
 congr 1
 . refine List.map_congr_left fun p hp=>?_
   have h1:p.1∈t.cells:=by
    have:=List.fst_mem_of_mem_zipIdx hp;exact List.mem_reverse.1 this
   simp[au.jY,hx _ h1]
 . simp[au.jY]
end Go.Proofs.YthicolbbmjfkfaaGreat.Em
namespace Go.Proofs.YthicolbbmjfkfaaGreat.Em
open Go.ChangeShapes Go.WideShapes Go.ChangeAt Go.RowKit En
theorem qo {l:List (Nat×kP)} {F:Nat} (h:l.lookup F=none):∀ p∈l,p.1≠F:=by
 induction l with
 |nil=>intro p hp;simp at hp
 |cons a l ih=>
  obtain⟨k,x⟩:=a;rw[List.lookup_cons] at h;intro p hp
  by_cases Z:F=k
  . subst Z;simp at h
  . rw[beq_false_of_ne Z] at h
    rcases List.mem_cons.1 hp with rfl|hp
    . exact fun e=>Z e.symm
    . exact ih h p hp
theorem mem_map {A:au} {D:St} {s:Nat} {t:bL} (ht:D.aj.getD s none=some t):bq A D (.map s)=.map (A.bm s) (gY A s t) t.cells.length:=by simp only[bq,ht]
theorem aC.map {A:au} {D:St} {w:World} (h:aC A D w) {s:Nat} {t:bL} (ht:D.aj.getD s none=some t):w.heap[A.bm s]? =some (.map (gY A s t).toArray t.cells.length):=by
 have k:=h.mem.all (.map s);rw[mem_map ht] at k;exact k.2
theorem aC.jY {A:au} {D:St} {w Y w2:World} (h:aC A D w) (hB:Below w.heap.size w Y) {s b:Nat} {t:bL} (ht:D.aj.getD s none=some t) {F:Nat} (hx:t.cell F=none) (hb:w.heap.size<=b) (x:kP)
 (he:Y.heap[b]? =some (.cells (sJ x).toArray 225)) (hg:Y.grownBy w2 (some (A.bm s))) (hm:w2.heap[A.bm s]? =some (.map (gY A s t++[(⟨i64 F,ptr b,t.cells.length⟩:MapEntry)]).toArray (t.cells.length+1))) (hz:w2.heap.size=Y.heap.size):
 aC (A.jY s F b) (D.bK s {t with cells:=(F,x)::t.cells}) w2∧Grow A.L w (A.jY s F b).L w2:=by
 have hx':=qo hx;have hlt:b<Y.heap.size:=fA he;have hmap:=h.map ht;have hlm:=(h.mem.all (.map s))
 rw[mem_map ht] at hlm;have Tn:=h.mem.fresh b hb;have hne:b≠A.bm s:=by rintro rfl;rw[hlm.1] at Tn;cases Tn
 have k1:=(h.mem.below hB).Cy (.cell s F) Tn (.obj b (sJ x) 225) ⟨kU _ _ _,he⟩ hlt;have g1:Grow A.L w (kD A.L b (.cell s F)) Y:=vB hB hb _;have Qa:kD A.L b (.cell s F) (A.bm s)=some (.map s):=(fF (Ne.symm hne)).trans hlm.1;have k2:Holds (kD A.L b (.cell s F)) w2 (iF (iF (bq A D) (.cell s F) (.obj b (sJ x) 225)) (.map s) (.map (A.bm s) (gY A s t++[(⟨i64 F,ptr b,t.cells.length⟩:MapEntry)]) (t.cells.length+1))):=by
  refine k1.upd (.map s) ?_ (fun q hq=>bQ _ _ hq) (fun c q hc hl hq=>hg.block c hc ?_) (fun _ _=>rfl) (fun c hc=>k1.fresh c (by omega))
  . rw[gF];exact⟨Qa,hm⟩
  . intro e
    obtain rfl:c=A.bm s:=by simpa using e
    rw[Qa] at hl;exact hq (zj hl).symm
 have g2:Grow (kD A.L b (.cell s F)) Y (kD A.L b (.cell s F)) w2:=by
  refine Grow.grown hg fun g hg'=>?_
  obtain rfl:A.bm s=g:=by simpa using hg'
  rw[Qa];simp
 have g:=g1.trans g2;refine⟨⟨k2.of_eq fun q=>?_,h.ev.grow g,h.sl,h.nw,h.nt,h.nv,by simpa [St.bK] using h.n8,h.nc⟩,g⟩;have gt:∀ k,(D.bK s {t with cells:=(F,x)::t.cells}).aj.getD k none=if k=s then some {t with cells:=(F,x)::t.cells} else D.aj.getD k none:=fun k=>dC (dB ht) _ k
 have hb1:∀ k,k≠s->∀ j,(A.jY s F b).bx k j=A.bx k j:=fun k Z j=>aR (fun e=>Z e.1)
 by_cases hs:q.tx=some s
 . rw[iH _ _ hs,gt,aV rfl]
   unfold iF;rw[iH A _ hs,ht]
   cases q<;>simp[bU.tx] at hs<;>(have hs:=hs.symm;subst hs)
   . simp[gT,eO,au.jY]
   . simp only[gT,aV,Fe _ _ _ _ _ _ hx'];rfl
   . rename_i j
     by_cases hj:j=F
     . subst hj;simp[gT,bL.cell,au.jY]
     . have e1:(bU.cell s j=bU.map s)=False:=by simp
       have e2:(bU.cell s j=bU.cell s F)=False:=by simp[hj]
       have e3:((F,x)::t.cells).lookup j=t.cells.lookup j:=by rw[List.lookup_cons,beq_false_of_ne hj]
       simp only[gT,Option.bind_some,bL.cell,e3,e1,e2,if_false,au.jY];simp[hj]
   . simp[gT,au.jY]
   . simp[gT,au.jY]
   . simp[gT,au.jY]
 . have e3:q≠.map s:=by rintro rfl;exact hs rfl
   have e4:q≠.cell s F:=by rintro rfl;exact hs rfl
   rw[bQ _ _ e3,bQ _ _ e4,jw _ ht _ hs];exact mU (A:=A) (A':=A.jY s F b) ⟨rfl,rfl,rfl,rfl,rfl,rfl,rfl,rfl,rfl,rfl,rfl,rfl,rfl,rfl,rfl,rfl,rfl,fun _ _=>rfl,fun k Z=>funext fun j=>hb1 k Z j,fun _ _=>rfl,fun _ _=>rfl,fun _ _=>rfl,fun _ _=>rfl,fun _ _=>rfl⟩ D hs
end Go.Proofs.YthicolbbmjfkfaaGreat.Em
