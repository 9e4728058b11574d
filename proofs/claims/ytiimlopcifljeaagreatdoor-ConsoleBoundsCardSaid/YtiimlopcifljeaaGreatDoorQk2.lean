import Derived.Test.YtiimlopcifljeaaGreatDoorQk0
import Derived.Test.YtiimlopcifljeaaGreatDoorProg
import Derived.WalkKit
import Derived.ProofKit
import Derived.Laws.AppendOwn
import Derived.Laws.NewBlocks
import Derived.Laws.CopyOwn
import Derived.Laws.OwnMore
import Derived.Deep.Quiet
import Derived.Deep.MidRow
namespace Go.Proofs.YtiimlopcifljeaaGreatDoor.Em
open Go.ChangeShapes Go.WideShapes Go.ChangeAt Go.RowKit
set_option linter.unusedVariables false
set_option linter.unusedSimpArgs false
set_option maxRecDepth 100000
set_option maxHeartbeats 1600000
inductive Role where
 |eng|arena|words|pool|tags|free|values|tale|cut
 |txn (s:Nat)|map (s:Nat)|cell (s key:Nat)|keys (s:Nat)|reads (s:Nat)|bonds (s:Nat)|call (s:Nat)|pairs (s:Nat)|tmp
 deriving DecidableEq
abbrev Lab:=Nat→Option Role
def lab1 (L:Lab) (b:Nat) (r:Role):Lab:=fun k=>if k=b then some r else L k
theorem lab1_same (L:Lab) (b:Nat) (r:Role):lab1 L b r b=some r:=if_pos rfl
theorem lab1_other {L:Lab} {b k:Nat} {r:Role} (h:k≠b):lab1 L b r k=L k:=if_neg h
structure Grow (L:Lab) (w:World) (L':Lab) (w':World):Prop where
 os:w'.os=w.os
 tape:w'.tape=w.tape
 output:w'.output=w.output
 size:w.heap.size≤w'.heap.size
 block:∀ b,b<w.heap.size→L b=none→w'.heap[b]? =w.heap[b]?
 lab:∀ b,b<w.heap.size→L' b=L b
 keep:∀ b,b<w.heap.size→L b=some .tmp→w'.heap[b]? =w.heap[b]?
theorem Grow.refl (L:Lab) (w:World):Grow L w L w:=⟨rfl,rfl,rfl,Nat.le_refl _,fun _ _ _=>rfl,fun _ _=>rfl,fun _ _ _=>rfl⟩
theorem Grow.trans {L L1 L2:Lab} {w w1 w2:World} (h:Grow L w L1 w1) (k:Grow L1 w1 L2 w2):Grow L w L2 w2:=
 ⟨k.os.trans h.os, k.tape.trans h.tape, k.output.trans h.output, Nat.le_trans h.size k.size,
   fun b hb hl=>(k.block b (Nat.lt_of_lt_of_le hb h.size) (by rw[h.lab b hb];exact hl)).trans (h.block b hb hl),
   fun b hb=>(k.lab b (Nat.lt_of_lt_of_le hb h.size)).trans (h.lab b hb),
   fun b hb hl=>(k.keep b (Nat.lt_of_lt_of_le hb h.size) (by rw[h.lab b hb];exact hl)).trans (h.keep b hb hl)⟩
theorem Grow.alloc (L:Lab) (w:World) (o:Obj):Grow L w L (w.alloc o):=⟨rfl,rfl,rfl,by simp,fun b hb _=>Below.heap_alloc w o b hb,fun _ _=>rfl,fun b hb _=>Below.heap_alloc w o b hb⟩
theorem Grow.drew (L:Lab) (w:World):Grow L w L w.drew:=⟨rfl,rfl,rfl,Nat.le_refl _,fun _ _ _=>rfl,fun _ _=>rfl,fun _ _ _=>rfl⟩
theorem zG (L:Lab) (w:World):Hid (Grow L w L w.drew):=Grow.drew L w
theorem Grow.drewN (L:Lab) (w:World) (n:Nat):Grow L w L (w.drewN n):=⟨rfl,rfl,rfl,Nat.le_refl _,fun _ _ _=>rfl,fun _ _=>rfl,fun _ _ _=>rfl⟩
theorem Grow.setCell {L:Lab} {w:World} {a:Addr} (h:w.heap.size≤a.block∨(L a.block≠none∧L a.block≠some .tmp)) (v:Value):Grow L w L (w.setCell a v):=
 ⟨rfl,rfl,rfl,by simp[World.setCell],fun b hb hl=>Below.heap_setCell _ _ _ _ (by rintro rfl;rcases h with h|h;exact absurd hb (by omega);exact h.1 hl),fun _ _=>rfl,fun b hb hl=>Below.heap_setCell _ _ _ _ (by rintro rfl;rcases h with h|h;exact absurd hb (by omega);exact h.2 hl)⟩
theorem Grow.lab1 {L L':Lab} {w w':World} (h:Grow L w L' w') {b:Nat} (hb:w.heap.size≤b) (r:Role):Grow L w (lab1 L' b r) w':=
 ⟨h.os,h.tape,h.output,h.size,h.block,fun k hk=>(lab1_other (by omega)).trans (h.lab k hk),h.keep⟩
theorem Grow.below {L:Lab} {w w':World} (h:Below w.heap.size w w'):Grow L w L w':=⟨h.os,h.tape,h.output,h.size,fun b hb _=>h.block b hb,fun _ _=>rfl,fun b hb _=>h.block b hb⟩
theorem Grow.grown {L:Lab} {w w':World} {row:Option Nat} (h:w.grownBy w' row) (hr:∀ g,row=some g→L g≠none∧L g≠some .tmp):Grow L w L w':=
 ⟨h.os,h.tape,h.output,h.size,fun b hb hl=>h.block b hb (fun e=>(hr b e.symm).1 hl),fun _ _=>rfl,fun b hb hl=>h.block b hb (fun e=>(hr b e.symm).2 hl)⟩
def Fix (L:Lab) (w:World) (b:Nat) (o:Obj):Prop:=L b=none∧w.heap[b]? =some o
theorem lt_of {w:World} {g:Nat} {o:Obj} (h:w.heap[g]? =some o):g<w.heap.size:=(Array.getElem?_eq_some_iff.1 h).1
theorem Fix.grow {L L':Lab} {w w':World} {b:Nat} {o:Obj} (h:Fix L w b o) (g:Grow L w L' w'):Fix L' w' b o:=
 ⟨(g.lab b (lt_of h.2)).trans h.1,(g.block b (lt_of h.2) h.1).trans h.2⟩
theorem Fix.alloc {L:Lab} {w:World} {o:Obj} (h:L w.heap.size=none):Fix L (w.alloc o) w.heap.size o:=⟨h,heap_alloc_new w o⟩
def Box (L:Lab) (w:World) (b:Nat) (v:Value):Prop:=∃ T,Fix L w b (.cells #[v] T)
theorem Box.grow {L L':Lab} {w w':World} {b:Nat} {v:Value} (h:Box L w b v) (g:Grow L w L' w'):Box L' w' b v:=let ⟨T,h⟩:=h;⟨T,h.grow g⟩
theorem Box.cell {L:Lab} {w:World} {b:Nat} {v:Value} (h:Box L w b v):w.cell? ⟨b,0,none⟩=some v:=by
 obtain⟨T,h1,h2⟩:=h;rw[cell_of_row w b 0 _ _ _ h2];rfl
inductive Entry where
 |none
 |obj (b:Nat) (cs:List Value) (T:TypeId)
 |own (v:Value) (e:TypeId) (size n:Nat) (xs:List Value)
 |map (b:Nat) (es:List MapEntry) (clock:Nat)
def Entry.Holds (L:Lab) (w:World) (r:Role):Entry→Prop
 |.none=>True
 |.obj b cs T=>L b=some r∧w.heap[b]? =some (.cells cs.toArray T)
 |.own v e size n xs=>w.ownsRow 0 e size v n xs∧∀ g,v.ownBlock=some g→L g=some r
 |.map b es clock=>L b=some r∧w.heap[b]? =some (.map es.toArray clock)
theorem own_same {w w':World} {base:Nat} {e:TypeId} {size:Nat} {v:Value} {n:Nat} {xs:List Value} (h:w.ownsRow base e size v n xs) (hs:∀ g,v.ownBlock=some g→w'.heap[g]? =w.heap[g]?):w'.ownsRow base e size v n xs:=by
 refine⟨h.1,?_⟩
 rcases h.2 with h0|⟨g,cap,cur,rfl,h2,h3,h4⟩
 · exact .inl h0
 · exact .inr ⟨g,cap,cur,rfl,h2,by rw[hs g rfl];exact h3,h4⟩
theorem Entry.Holds.frame {L L':Lab} {w w':World} {r:Role} {e:Entry} (h:e.Holds L w r) (hs:∀ b,b<w.heap.size→L b=some r→w'.heap[b]? =w.heap[b]?) (hl:∀ b,b<w.heap.size→L' b=L b):e.Holds L' w' r:=by
 cases e with
 |none=>trivial
 |obj b cs T=>exact⟨(hl b (lt_of h.2)).trans h.1,(hs b (lt_of h.2) h.1).trans h.2⟩
 |map b es c=>exact⟨(hl b (lt_of h.2)).trans h.1,(hs b (lt_of h.2) h.1).trans h.2⟩
 |own v e size n xs=>
  exact⟨own_same h.1 fun g hg=>hs g (h.1.lt g hg).2 (h.2 g hg),fun g hg=>(hl g (h.1.lt g hg).2).trans (h.2 g hg)⟩
structure Holds (L:Lab) (w:World) (m:Role→Entry):Prop where
 all:∀ r,(m r).Holds L w r
 fresh:∀ b,w.heap.size≤b→L b=none
theorem Holds.grow {L L':Lab} {w w':World} {m:Role→Entry} (h:Holds L w m) (hs:∀ b r,b<w.heap.size→L b=some r→w'.heap[b]? =w.heap[b]?) (hl:∀ b,b<w.heap.size→L' b=L b) (hf:∀ b,w'.heap.size≤b→L' b=none):Holds L' w' m:=
 ⟨fun r=>(h.all r).frame (fun b hb hr=>hs b r hb hr) hl,hf⟩
theorem Holds.below {L:Lab} {w w':World} {m:Role→Entry} (h:Holds L w m) (hb:Below w.heap.size w w'):Holds L w' m:=
 h.grow (fun b r hl _=>hb.block b hl) (fun _ _=>rfl) (fun b hl=>h.fresh b (Nat.le_trans hb.size hl))
theorem Holds.upd {L L':Lab} {w w':World} {m m':Role→Entry} (h:Holds L w m) (r:Role) (hr:(m' r).Holds L' w' r) (hm:∀ q,q≠r→m' q=m q)
 (hs:∀ b q,b<w.heap.size→L b=some q→q≠r→w'.heap[b]? =w.heap[b]?) (hl:∀ b,b<w.heap.size→L' b=L b) (hf:∀ b,w'.heap.size≤b→L' b=none):Holds L' w' m':=by
 refine⟨fun q=>?_,hf⟩
 by_cases hq:q=r
 · subst hq;exact hr
 · rw[hm q hq]
   exact (h.all q).frame (fun b hb he=>hs b q hb he hq) hl
theorem Holds.set {L:Lab} {w:World} {m m':Role→Entry} (h:Holds L w m) (r:Role) {b:Nat} {cs:List Value} {T:TypeId} (he:m r=.obj b cs T) (i:Nat) (v:Value) (he':m' r=.obj b (cs.set i v) T) (hm:∀ q,q≠r→m' q=m q):
 Holds L (w.setCell ⟨b,i,none⟩ v) m':=by
 have k:=h.all r;rw[he] at k;refine h.upd r ?_ hm (fun c q hc hl hq=>Below.heap_setCell _ _ _ _ ?_) (fun _ _=>rfl) (fun c hc=>h.fresh c (by simpa [World.setCell] using hc))
 · rw[he']
   refine⟨k.1,?_⟩;have:=k.2;simp only[World.setCell,Array.getElem?_modify,this];simp
 · rintro rfl
   rw[k.1] at hl;exact hq (Option.some.inj hl).symm
theorem Holds.cell {L:Lab} {w:World} {m:Role→Entry} (h:Holds L w m) {r:Role} {b:Nat} {cs:List Value} {T:TypeId} (he:m r=.obj b cs T) (i:Nat) {v:Value} (hv:cs[i]? =some v):w.cell? ⟨b,i,none⟩=some v:=by
 have k:=h.all r;rw[he] at k;rw[cell_of_row w b i _ _ _ k.2]
 simpa using hv
theorem Holds.frozen {L:Lab} {w:World} {m:Role→Entry} (h:Holds L w m) {r:Role} {b:Nat} {cs:List Value} {T:TypeId} (he:m r=.obj b cs T) (i:Nat):w.frozen? ⟨b,i,none⟩=false:=by
 have k:=h.all r;rw[he] at k;simp[World.frozen?,k.2]
theorem Holds.lab {L:Lab} {w:World} {m:Role→Entry} (h:Holds L w m) {r:Role} {b:Nat} {cs:List Value} {T:TypeId} (he:m r=.obj b cs T):L b=some r:=by
 have k:=h.all r;rw[he] at k;exact k.1
theorem Holds.grow_set {L:Lab} {w:World} {m:Role→Entry} (h:Holds L w m) {r:Role} {b:Nat} {cs:List Value} {T:TypeId} (he:m r=.obj b cs T) (i:Nat) (v:Value) (hr:r≠.tmp:=by simp):Grow L w L (w.setCell ⟨b,i,none⟩ v):=
 Grow.setCell (.inr (by show L b≠none∧L b≠some .tmp;rw[h.lab he];simpa using hr)) v
end Go.Proofs.YtiimlopcifljeaaGreatDoor.Em
namespace Go.Proofs.YtiimlopcifljeaaGreatDoor.Em
open Go.ChangeShapes Go.WideShapes Go.ChangeAt Go.RowKit
set_option linter.unusedVariables false
def updE (m:Role→Entry) (r:Role) (e:Entry):Role→Entry:=fun q=>if q=r then e else m q
theorem updE_same (m:Role→Entry) (r:Role) (e:Entry):updE m r e r=e:=if_pos rfl
theorem updE_other (m:Role→Entry) {r q:Role} (e:Entry) (h:q≠r):updE m r e q=m q:=if_neg h
theorem Holds.put {L:Lab} {w:World} {m:Role→Entry} (h:Holds L w m) (r:Role) {b:Nat} {cs:List Value} {T:TypeId} (he:m r=.obj b cs T) (i:Nat) (v:Value):
 Holds L (w.setCell ⟨b,i,none⟩ v) (updE m r (.obj b (cs.set i v) T)):=h.set r he i v (updE_same _ _ _) fun q hq=>updE_other m _ hq
theorem Holds.setNone {L:Lab} {w:World} {m:Role→Entry} (h:Holds L w m) {a:Addr} (ha:L a.block=none) (v:Value):Holds L (w.setCell a v) m:=
 h.grow (fun b r hb hl=>Below.heap_setCell _ _ _ _ (by rintro rfl;rw[ha] at hl;cases hl)) (fun _ _=>rfl) (fun b hb=>h.fresh b (by simpa [World.setCell] using hb))
theorem Holds.adopt {L:Lab} {w:World} {m:Role→Entry} (h:Holds L w m) (r:Role) {b:Nat} (hb:L b=none) (e:Entry) (he:e.Holds (lab1 L b r) w r) (hlt:b<w.heap.size):Holds (lab1 L b r) w (updE m r e):=by
 refine⟨fun q=>?_,fun c hc=>?_⟩
 · by_cases hq:q=r
   · subst hq;rw[updE_same];exact he
   · rw[updE_other m _ hq]
     have k:=h.all q
     cases hm:m q with
     |none=>trivial
     |obj c cs T=>rw[hm] at k;exact⟨by rw[lab1_other (by rintro rfl;have k1:=k.1;rw[hb] at k1;cases k1)];exact k.1,k.2⟩
     |map c cs T=>rw[hm] at k;exact⟨by rw[lab1_other (by rintro rfl;have k1:=k.1;rw[hb] at k1;cases k1)];exact k.1,k.2⟩
     |own v e size n xs=>
      rw[hm] at k;refine⟨k.1,fun g hg=>?_⟩;have:=k.2 g hg;rw[lab1_other (by rintro rfl;rw[hb] at this;cases this)];exact this
 · rw[lab1_other (by omega)]
   exact h.fresh c hc
def labV (L:Lab) (v:Value) (r:Role):Lab:=fun k=>if v.ownBlock=some k then some r else L k
theorem Holds.grown {L:Lab} {w w':World} {m:Role→Entry} (h:Holds L w m) (r:Role) {v v':Value} {e:TypeId} {size n n':Nat} {xs xs':List Value} (he:m r=.own v e size n xs)
 (hg:w.grownBy w' v.ownBlock) (ho:w'.ownsRow 0 e size v' n' xs') (hw:v'.ownBlock=v.ownBlock∨∀ g,v'.ownBlock=some g→w.heap.size≤g) (hrt:r≠.tmp:=by simp):
 Holds (labV L v' r) w' (updE m r (.own v' e size n' xs'))∧Grow L w (labV L v' r) w':=by
 have k:=h.all r;rw[he] at k;have hlab:∀ b,b<w.heap.size→labV L v' r b=L b:=by
  intro b hb;unfold labV
  split
  · rename_i hv
    rcases hw with hw|hw
    · rw[hw] at hv;exact (k.2 b hv).symm
    · exact absurd (hw b hv) (by omega)
  · rfl
 refine⟨h.upd r ?_ (fun q hq=>updE_other m _ hq) (fun b q hb hl hq=>hg.block b hb ?_) hlab (fun b hb=>?_),⟨hg.os,hg.tape,hg.output,hg.size,fun b hb hl=>hg.block b hb ?_,hlab,fun b hb hl=>hg.block b hb ?_⟩⟩
 · rw[updE_same]
   exact⟨ho,fun g hg=>if_pos hg⟩
 · intro e2
   rw[k.2 b e2.symm] at hl;exact hq (Option.some.inj hl).symm
 · unfold labV
   rw[if_neg]
   · exact h.fresh b (Nat.le_trans hg.size hb)
   · intro e2
     have:=(ho.lt b e2).2;omega
 · intro e2
   rw[k.2 b e2.symm] at hl
   cases hl
 · intro e2
   rw[k.2 b e2.symm] at hl;exact hrt (Option.some.inj hl)
theorem Holds.shrink {L:Lab} {w:World} {m:Role→Entry} (h:Holds L w m) (r:Role) {v v':Value} {e:TypeId} {size n n':Nat} {xs xs':List Value} (he:m r=.own v e size n xs)
 (ho:w.ownsRow 0 e size v' n' xs') (hv:v'.ownBlock=v.ownBlock∨v'.ownBlock=none):Holds L w (updE m r (.own v' e size n' xs')):=by
 have k:=h.all r;rw[he] at k;refine h.upd r ?_ (fun q hq=>updE_other m _ hq) (fun b q hb hl hq=>rfl) (fun _ _=>rfl) h.fresh;rw[updE_same];refine⟨ho,fun g hg=>?_⟩
 rcases hv with hv|hv
 · exact k.2 g (hv ▸ hg)
 · rw[hv] at hg;cases hg
def FRow (L:Lab) (w:World) (size:Nat) (v:Value) (xs:List Value):Prop:=
 ∃ a n cap,v=.slice a n cap∧xs.length=n*size∧n≤cap∧cap≤maxLen∧(n=0∨∃ g off,a=some ⟨g,off,none⟩∧L g=none∧g<w.heap.size∧∀ j,j<n*size→w.cell? ⟨g,off+j,none⟩=xs[j]?)
theorem FRow.nil (L:Lab) (w:World) (size:Nat):FRow L w size (.slice none 0 0) []:=⟨none,0,0,rfl,by simp,by omega,by unfold maxLen;omega,.inl rfl⟩
theorem FRow.grow {L L':Lab} {w w':World} {size:Nat} {v:Value} {xs:List Value} (h:FRow L w size v xs) (g:Grow L w L' w'):FRow L' w' size v xs:=by
 obtain⟨a,n,cap,h1,h2,h3,h4,h5⟩:=h;refine⟨a,n,cap,h1,h2,h3,h4,?_⟩
 rcases h5 with h5|⟨b,off,e1,e2,e3,e4⟩
 · exact .inl h5
 · refine .inr ⟨b,off,e1,(g.lab b e3).trans e2,Nat.lt_of_lt_of_le e3 g.size,fun j hj=>?_⟩
   rw[World.cell?_of_block (w:=w) (a:=⟨b,off+j,none⟩) (g.block b e3 e2)];exact e4 j hj
end Go.Proofs.YtiimlopcifljeaaGreatDoor.Em
namespace Go.Proofs.YtiimlopcifljeaaGreatDoor.En
set_option linter.unusedVariables false
set_option linter.unusedSimpArgs false
set_option maxRecDepth 100000
set_option maxHeartbeats 1600000
structure Op where
 kind:Nat
 key:Nat
 hi:Nat
 value:Nat
 deriving Repr,DecidableEq,Inhabited
structure Res where
 e:Nat:=0
 value:Nat:=0
 pairs:List (Nat×Nat):=[]
 over:Nat:=0
 reason:Nat:=0
 deriving Repr,DecidableEq,Inhabited
structure Ev where
 kind:Nat
 t:Nat
 n:Nat:=0
 op:Op:=⟨0,0,0,0⟩
 res:Res:={}
 deriving Repr,DecidableEq,Inhabited
structure Cel where
 own:Nat
 old:Nat
 there:Bool
 deriving Repr,DecidableEq,Inhabited
structure Txn where
 id:Nat
 level:Nat
 begin_:Nat
 end_:Nat
 ops:Nat
 keys:List Nat
 cells:List (Nat×Cel)
 reads:List (Nat×Nat×Bool)
 bonds:List Nat
 over:Bool
 deriving Repr,DecidableEq,Inhabited
inductive Thn where
 |get
 |scan (key:Nat)
 |change
 |judge (i link:Nat)
 deriving Repr,DecidableEq,Inhabited
structure Hunt where
 key:Nat
 at_:Nat
 thn:Thn
 deriving Repr,DecidableEq,Inhabited
structure Trn where
 at_:Nat
 old:Nat
 new:Nat
 deriving Repr,DecidableEq,Inhabited
inductive K where
 |fin (r:Res)
 |start (h:Hunt)
 |visit (h:Hunt) (link:Nat)
 |older (h:Hunt) (link:Nat)
 |maker (h:Hunt) (link id:Nat)
 |ended (h:Hunt) (link maybe_:Nat)
 |ender (h:Hunt) (link maybe_ id:Nat)
 |seen (h:Hunt) (link maybe_:Nat)
 |again (end_:Nat)
 |own (link:Nat)
 |ownTxn (link w id:Nat)
 |claim (link w:Nat)
 |fresh (link:Nat)
 |next (link head at_:Nat)
 |free (link head at_:Nat)
 |freeTxn (link head at_ id:Nat)
 |slotB (x:Bool) (link head:Nat)
 |slotE (x:Bool) (link head:Nat)
 |push (link head:Nat)
 |pushC (link head:Nat)
 |over (link:Nat)
 |overN (link head:Nat)
 |overC (link head:Nat)
 |draw
 |drawH (w now:Nat)
 |turn (w now:Nat)
 |helpJ
 |wait (i:Nat)
 |turns (l:List Trn) (r:Res)
 |commit
 |abort (e reason:Nat)
 deriving Repr,DecidableEq,Inhabited
structure Cal where
 op:Op
 k:Option K
 r:Res
 waits:Bool
 over:Bool
 seq:Nat
 deriving Repr,DecidableEq,Inhabited
inductive S where
 |live (s:Nat)
 |head (key:Nat)
 |visit (key ahead link:Nat)
 |maker (key ahead link id:Nat)
 |garbage (key ahead link begin_:Nat)
 |on (key link:Nat)
 |unlink (key ahead link:Nat)
 |cut (key ahead link next:Nat)
 |now
 deriving Repr,DecidableEq,Inhabited
structure St where
 slots:Nat
 limit:Nat
 words:List Nat
 count:Nat
 tags:List (Nat×Bool)
 free:List Nat
 worn:Nat
 listed:Bool
 values:List (Nat×Nat)
 txns:List (Option Txn)
 calls:List (Option Cal)
 made:Nat
 seq:Nat
 looks:Nat
 tale:List Ev
 sw:Option S
 low:Nat
 cut:List (Nat×Nat)
 cuts:Nat
 deriving Repr,DecidableEq,Inhabited
def ever:Nat:=2305843009213693952
def txnBit:Nat:=4611686018427387904
def tm:Nat:=1099511627776
def rd (w:Nat):Nat×Nat:=
 if w≤tm then (1,w) else if w=ever then (3,0) else if txnBit<w∧w≤txnBit+65535 then (2,w - txnBit) else (0,0)
def slotOf (link:Nat):Nat:=link % 131072 - 1
def wslot (link w:Nat):Nat:=73+slotOf link*3+w
def St.place (σ:St) (id:Nat):Nat:=73+σ.slots*3+id
def pack (state end_:Nat):Nat:=end_*8+state
def stateOf (w:Nat):Nat:=w % 8
def endOf (w:Nat):Nat:=w / 8
def clockW (t id:Nat):Nat:=t*65536+id
def timeOf (w:Nat):Nat:=w / 65536
def lastOf (w:Nat):Nat:=w % 65536
def St.word (σ:St) (i:Nat):Nat:=σ.words.getD i 0
def St.tick (σ:St):St:={σ with count:=σ.count+1}
def St.put (σ:St) (i v:Nat):St:={σ with words:=σ.words.set i v,count:=σ.count+1}
def St.cas (σ:St) (i old new:Nat):St:=if σ.word i=old then σ.put i new else σ.tick
def St.t (σ:St) (s:Nat):Txn:=((σ.txns.getD s none).getD default)
def St.c (σ:St) (s:Nat):Cal:=((σ.calls.getD s none).getD default)
def St.setT (σ:St) (s:Nat) (t:Txn):St:={σ with txns:=σ.txns.set s (some t)}
def St.setC (σ:St) (s:Nat) (c:Cal):St:={σ with calls:=σ.calls.set s (some c)}
def St.event (σ:St) (e:Ev):St:={σ with tale:=σ.tale++[e]}
def St.help (σ:St) (w:Nat):St:=σ.cas (σ.place (lastOf w)) (pack 1 0) (pack 2 (timeOf w))
def St.bind (σ:St) (s tq:Nat):St:=
 if tq∈(σ.t s).bonds then σ
 else (σ.setT s {σ.t s with bonds:=(σ.t s).bonds++[tq]}).event {kind:=4,t:=(σ.t s).id,n:=tq}
def St.read (σ:St) (s key link:Nat) (got:Bool):St:=σ.setT s {σ.t s with reads:=(σ.t s).reads++[(key,link,got)]}
def Txn.cell (t:Txn) (key:Nat):Option Cel:=t.cells.lookup key
def St.valueOf (σ:St) (link:Nat):Nat:=(σ.values.getD (slotOf link) (0,0)).2
def St.tell (σ:St) (s key n:Nat):St:=σ.setC s {σ.c s with r:={(σ.c s).r with pairs:=(σ.c s).r.pairs++[(key,n)]}}
def scanN (s:Nat):Nat→St→Nat→St×K
 |0,σ,key=>(σ,.fin (σ.c s).r)
 |n+1,σ,key=>
  if (σ.c s).op.hi<key then (σ,.fin (σ.c s).r) else
  match (σ.t s).cell key with
  |some x=>scanN s n (if x.there then σ.tell s key (σ.valueOf x.own) else σ) (key+1)
  |none=>(σ,.start ⟨key,(σ.t s).begin_,.scan key⟩)
def St.scan (σ:St) (s key:Nat):St×K:=scanN s ((σ.c s).op.hi+1 - key) σ key
def Txn.needs (t:Txn) (r:Nat×Nat×Bool):Bool:=(t.cell r.1).isNone&&(t.level==3||(t.level==2&&r.2.2))
def Txn.need (t:Txn):Nat→Nat→Nat
 |0,i=>i
 |n+1,i=>if i<t.reads.length∧t.needs (t.reads.getD i (0,0,false))=false then t.need n (i+1) else i
def waitK (t:Txn) (i:Nat):K:=if i=t.bonds.length then .commit else .wait i
def judgeK (t:Txn) (i:Nat):K:=
 let i:=t.need (t.reads.length - i) i
 if i=t.reads.length then waitK t 0 else .start ⟨(t.reads.getD i (0,0,false)).1,t.end_,.judge i (t.reads.getD i (0,0,false)).2.1⟩
/- The pool. -/
def St.list (σ:St):St:=if σ.listed then σ else {σ with listed:=true,free:=σ.free++(List.range σ.slots).reverse}
def linkOf (i tag:Nat):Nat:=tag*131072+(i+1)
def St.linkAt (σ:St) (i:Nat):Nat:=linkOf i (σ.tags.getD i (0,false)).1
def St.take (σ:St):St×Option Nat:=
 let σ:=σ.list
 match σ.free.getLast? with
 |none=>(σ,none)
 |some i=>({σ with free:=σ.free.dropLast,tags:=σ.tags.set i ((σ.tags.getD i (0,false)).1,true)},some (σ.linkAt i))
def St.poolLive (σ:St) (link:Nat):Bool:=1≤link % 131072&&link % 131072≤σ.slots&&(σ.tags.getD (slotOf link) (0,false)).2&&σ.linkAt (slotOf link)==link
def St.give (σ:St) (link:Nat):St:=
 if σ.poolLive link then
  let i:=slotOf link
  let tag:=(σ.tags.getD i (0,false)).1
  if tag=65535 then {σ with tags:=σ.tags.set i (tag,false),worn:=σ.worn+1}
  else {σ with tags:=σ.tags.set i (tag+1,false),free:=σ.free++[i]}
 else σ
def St.used (σ:St):Nat:=σ.list.slots - σ.list.free.length - σ.worn
def St.slot (σ:St) (s:Nat) (x:Bool) (link head:Nat):St×K:=
 match (if link=0 then σ.take else (σ,some link)) with
 |(σ,none)=>(σ,.abort 14 5)
 |(σ,some link)=>({σ with values:=σ.values.set (slotOf link) ((σ.c s).op.key,(σ.c s).op.value)},.slotB x link head)
def St.freeK (σ:St) (s link head at_:Nat):St×K:=if at_=0 then σ.slot s false link head else (σ,.free link head at_)
def St.lost (σ:St) (link:Nat):St×K:=(if link≠0 then σ.give link else σ,.abort 14 2)
def mine (t:Txn):Nat:=txnBit+t.id
def St.takeKey (σ:St) (s key:Nat) (x:Cel):St:=σ.setT s {σ.t s with cells:=(key,x)::(σ.t s).cells,keys:=(σ.t s).keys++[key]}
def upd (l:List (Nat×Cel)) (key:Nat) (x:Cel):List (Nat×Cel):=l.map fun p=>if p.1=key then (key,x) else p
def St.setX (σ:St) (s key:Nat) (x:Cel):St:=σ.setT s {σ.t s with cells:=upd (σ.t s).cells key x}
def St.x (σ:St) (s key:Nat):Cel:=((σ.t s).cell key).getD default
def St.thn (σ:St) (s:Nat) (h:Hunt) (link:Nat):St×K:=
 match h.thn with
 |.get=>
  let σ:=σ.read s h.key link (link !=0)
  if link=0 then (σ,.fin {e:=11}) else (σ,.fin {value:=σ.valueOf link})
 |.scan key=>
  let σ:=σ.read s key link false
  (if link=0 then σ else σ.tell s key (σ.valueOf link)).scan s (key+1)
 |.change=>
  let o:=(σ.c s).op
  if link≠0∧o.kind=2 then (σ.read s o.key link false,.fin {e:=12})
  else if link=0∧o.kind≠2 then (σ.read s o.key link false,.fin {e:=11})
  else if link=0 then (σ,.fresh 0)
  else (σ,.own link)
 |.judge i l=>
  if link≠l then (σ,.abort 14 3) else (σ,judgeK (σ.t s) (i+1))
def St.visit (σ:St) (s:Nat) (h:Hunt) (link:Nat):St×K:=if link=0 then σ.thn s h 0 else (σ,.visit h link)
def St.seen (σ:St) (s:Nat) (h:Hunt) (link maybe_:Nat):St×K:=if maybe_=0 then σ.thn s h link else (σ,.seen h link maybe_)
def St.beginK (σ:St) (s:Nat) (h:Hunt) (link w:Nat):K:=
 if (rd w).1=1∧(rd w).2≤h.at_ then .ended h link 0
 else if (rd w).1≠2∨(rd w).2=(σ.t s).id then .older h link
 else .maker h link (rd w).2
def St.tellEnd (σ:St) (s:Nat) (e:Ev):St:=if (σ.t s).over then σ else (σ.setT s {σ.t s with over:=true}).event e
def St.finish (σ:St) (s:Nat) (r:Res):St:=σ.setC s {σ.c s with r:=r,over:=true}
def commitTurns (σ:St) (t:Txn):List Trn:=
 t.keys.flatMap fun key=>
  let x:=(t.cell key).getD default
  (if x.own≠0 then ⟨wslot x.own 0,0,t.end_⟩::(if x.there then [] else [⟨wslot x.own 1,0,t.end_⟩]) else [])
  ++(if x.old≠0 then [⟨wslot x.old 1,0,t.end_⟩] else [])
def abortTurns (σ:St) (t:Txn):List Trn:=
 t.keys.flatMap fun key=>
  let x:=(t.cell key).getD default
  if x.old≠0 then [⟨wslot x.old 1,mine t,ever⟩] else []
def St.run (σ:St) (s:Nat):K→St×Option K
 |.fin r=>(σ.finish s r,none)
 |.start h=>let w:=σ.word (9+h.key);let (σ,k):=σ.tick.visit s h w;(σ,some k)
 |.visit h link=>(σ.tick,some (σ.beginK s h link (σ.word (wslot link 0))))
 |.maker h link id=>
  let w:=σ.word (σ.place id);let σ:=σ.tick
  if endOf w=0∨h.at_<endOf w∨stateOf w=4 then (σ,some (.older h link))
  else if stateOf w=2 then (σ,some (.ended h link id))
  else (σ,some (.ended h link 0))
 |.older h link=>let w:=σ.word (wslot link 2);let (σ,k):=σ.tick.visit s h w;(σ,some k)
 |.ended h link maybe_=>
  let w:=σ.word (wslot link 1);let σ:=σ.tick
  let r:=rd w
  if r.1=1∧r.2≤h.at_ then (σ,some (.older h link))
  else if r.1≠2∨r.2=(σ.t s).id then let (σ,k):=σ.seen s h link maybe_;(σ,some k)
  else (σ,some (.ender h link maybe_ r.2))
 |.ender h link maybe_ id=>
  let w:=σ.word (σ.place id);let σ:=σ.tick
  if endOf w=0∨h.at_<endOf w∨stateOf w=4 then let (σ,k):=σ.seen s h link maybe_;(σ,some k)
  else if stateOf w=2 then (σ.bind s id,some (.older h link))
  else (σ,some (.older h link))
 |.seen h link maybe_=>
  let w:=σ.word (σ.place maybe_);let σ:=σ.tick
  if stateOf w=4 then (σ,some (.start h))
  else let (σ,k):=(if stateOf w=2 then σ.bind s maybe_ else σ).thn s h link;(σ,some k)
 |.again end_=>
  let key:=(σ.c s).op.key
  let x:=σ.x s key
  let σ:=σ.put (wslot x.own 1) end_
  let there:=(σ.c s).op.kind !=4
  let σ:=σ.setX s key {x with there:=there}
  let σ:=if there then {σ with values:=σ.values.set (slotOf x.own) ((σ.values.getD (slotOf x.own) (0,0)).1,(σ.c s).op.value)} else σ
  (σ,some (.fin {}))
 |.own link=>
  let w:=σ.word (wslot link 1);let σ:=σ.tick
  let r:=rd w
  if r.1=3 then (σ,some (.claim link w))
  else if r.1=2 then (σ,some (.ownTxn link w r.2))
  else (σ,some (.abort 14 2))
 |.ownTxn link w id=>
  let v:=σ.word (σ.place id);let σ:=σ.tick
  if stateOf v≠4 then (σ,some (.abort 14 2)) else (σ,some (.claim link w))
 |.claim link w=>
  let v:=σ.word (wslot link 1)
  let σ:=σ.cas (wslot link 1) w (mine (σ.t s))
  if v≠w then (σ,some (.own link))
  else
   let σ:=σ.takeKey s (σ.c s).op.key ⟨0,link,false⟩
   if (σ.c s).op.kind=4 then (σ,some (.fin {}))
   else let (σ,k):=σ.slot s true 0 0;(σ,some k)
 |.fresh link=>
  let head:=σ.word (9+(σ.c s).op.key)
  let (σ,k):=σ.tick.freeK s link head head;(σ,some k)
 |.next link head at_=>
  let w:=σ.word (wslot at_ 2)
  let (σ,k):=σ.tick.freeK s link head w;(σ,some k)
 |.free link head at_=>
  let w:=σ.word (wslot at_ 0);let σ:=σ.tick
  let r:=rd w
  if r.1=1∧r.2≤(σ.t s).begin_ then (σ,some (.next link head at_))
  else if r.1≠2 then let (σ,k):=σ.lost link;(σ,some k)
  else (σ,some (.freeTxn link head at_ r.2))
 |.freeTxn link head at_ id=>
  let w:=σ.word (σ.place id);let σ:=σ.tick
  if stateOf w=4∨(0<endOf w∧endOf w≤(σ.t s).begin_) then (σ,some (.next link head at_))
  else let (σ,k):=σ.lost link;(σ,some k)
 |.slotB x link head=>(σ.put (wslot link 0) (mine (σ.t s)),some (.slotE x link head))
 |.slotE x link head=>
  let σ:=σ.put (wslot link 1) ever
  (σ,some (if x then .over link else .push link head))
 |.push link head=>(σ.put (wslot link 2) head,some (.pushC link head))
 |.pushC link head=>
  let key:=(σ.c s).op.key
  let v:=σ.word (9+key)
  let σ:=σ.cas (9+key) head link
  if v≠head then (σ,some (.fresh link))
  else (σ.takeKey s key ⟨link,0,true⟩,some (.fin {}))
 |.over link=>let head:=σ.word (9+(σ.c s).op.key);(σ.tick,some (.overN link head))
 |.overN link head=>(σ.put (wslot link 2) head,some (.overC link head))
 |.overC link head=>
  let key:=(σ.c s).op.key
  let v:=σ.word (9+key)
  let σ:=σ.cas (9+key) head link
  if v≠head then (σ,some (.over link))
  else (σ.setX s key {σ.x s key with own:=link,there:=true},some (.fin {}))
 |.draw=>
  let w:=σ.word 0;let σ:=σ.tick
  if σ.limit≤timeOf w then (σ,some (.abort 14 6))
  else if lastOf w=0 then (σ,some (.turn w (timeOf w)))
  else (σ,some (.drawH w (timeOf w)))
 |.drawH w now=>(σ.help w,some (.turn w now))
 |.turn w now=>
  let v:=σ.word 0
  let σ:=σ.cas 0 w (clockW (now+1) (σ.t s).id)
  if v≠w then (σ,some .draw)
  else
   let σ:=(σ.setT s {σ.t s with end_:=now+1}).event {kind:=3,t:=(σ.t s).id,n:=now+1}
   (σ,some .helpJ)
 |.helpJ=>
  let σ:=σ.help (clockW (σ.t s).end_ (σ.t s).id)
  (σ,some (judgeK (σ.t s) 0))
 |.wait i=>
  let v:=σ.word (σ.place ((σ.t s).bonds.getD i 0));let σ:=σ.tick
  if stateOf v=3 then (σ,some (waitK (σ.t s) (i+1)))
  else if stateOf v=4 then (σ,some (.abort 14 4))
  else (σ.setC s {σ.c s with waits:=true},some (.wait i))
 |.commit=>
  let t:=σ.t s
  let σ:=(σ.put (σ.place t.id) (pack 3 t.end_)).tellEnd s {kind:=5,t:=t.id}
  (σ,some (.turns (commitTurns σ t) {over:=3}))
 |.abort e reason=>
  let t:=σ.t s
  let σ:=(σ.put (σ.place t.id) (pack 4 t.end_)).tellEnd s {kind:=6,t:=t.id,res:={reason:=reason}}
  (σ,some (.turns (abortTurns σ t) {e:=e,over:=4,reason:=reason}))
 |.turns [] r=>((σ.put (1+s) 0).finish s r,none)
 |.turns (x::l) r=>(if x.old=0 then σ.put x.at_ x.new else σ.cas x.at_ x.old x.new,some (.turns l r))
def opOk (o:Op):Bool:=
 match o.kind with
 |1=>o.key≤63&&o.hi==0&&o.value==0
 |4=>o.key≤63&&o.hi==0&&o.value==0
 |2=>o.key≤63&&o.hi==0&&o.value≤65535
 |3=>o.key≤63&&o.hi==0&&o.value≤65535
 |5=>o.key≤63&&o.key≤o.hi&&o.hi≤63&&o.value==0
 |6=>o.key==0&&o.hi==0&&o.value==0
 |7=>o.key==0&&o.hi==0&&o.value==0
 |_=>false
def opEnds (o:Op):Bool:=o.kind==6||o.kind==7
def new (slots limit:Nat):St:=
 {slots:=slots,limit:=limit,words:=List.replicate (73+slots*3+2000+1) 0,count:=0,tags:=List.replicate slots (0,false),free:=[],worn:=0,listed:=false,values:=List.replicate slots (0,0),txns:=List.replicate 8 none,calls:=List.replicate 8 none,made:=0,seq:=0,looks:=0,tale:=[],sw:=none,low:=0,cut:=[],cuts:=0}
def St.first (σ:St) (s:Nat):St×K:=
 let o:=(σ.c s).op
 let t:=σ.t s
 match o.kind with
 |1=>
  match t.cell o.key with
  |some x=>(σ,if x.there then .fin {value:=σ.valueOf x.own} else .fin {e:=11})
  |none=>(σ,.start ⟨o.key,t.begin_,.get⟩)
 |5=>σ.scan s o.key
 |6=>(σ,.draw)
 |7=>(σ,.abort 0 1)
 |_=>
  match t.cell o.key with
  |some x=>
   if x.there∧o.kind=2 then (σ,.fin {e:=12})
   else if x.there=false∧o.kind≠2 then (σ,.fin {e:=11})
   else if x.own=0 then σ.slot s true 0 0
   else (σ,.again (if o.kind=4 then mine t else ever))
  |none=>(σ,.start ⟨o.key,t.begin_,.change⟩)
def garbage (end_ low:Nat):Bool:=(rd end_).1==1&&1≤(rd end_).2&&(rd end_).2≤low
def St.done (σ:St) (w:Nat):Bool:=(rd w).1==1||((rd w).1==2&&stateOf (σ.word (σ.place (rd w).2))==3)
def St.pairAt (σ:St):Nat→Nat→Option Nat
 |0,_=>none
 |n+1,link=>if link=0 then none else if σ.done (σ.word (wslot link 0))&&!σ.done (σ.word (wslot link 1)) then some (σ.valueOf link) else σ.pairAt n (σ.word (wslot link 2))
def St.pairs (σ:St):List (Nat×Nat):=(List.range 64).filterMap fun key=>(σ.pairAt (σ.slots+1) (σ.word (9+key))).map fun v=>(key,v)
end Go.Proofs.YtiimlopcifljeaaGreatDoor.En
namespace Go.Proofs.YtiimlopcifljeaaGreatDoor.Em
open Go.ChangeShapes Go.WideShapes Go.ChangeAt Go.RowKit En
set_option linter.unusedVariables false
set_option linter.unusedSimpArgs false
set_option maxRecDepth 100000
set_option maxHeartbeats 1600000
abbrev u64 (n:Nat):Value:=zu (n:Int)
abbrev i64 (n:Nat):Value:=zi (n:Int)
abbrev ptr (b:Nat):Value:=.pointer (some ⟨b,0,none⟩)
structure Book where
 L:Lab
 be:Nat
 ba:Nat
 bw:Nat
 bp:Nat
 bs:Nat
 bv:Nat
 bt:Nat→Nat
 bm:Nat→Nat
 bc:Nat→Nat
 bx:Nat→Nat→Nat
 vfree:Value
 vtale:Value
 vcut:Value
 hcut:Bool
 gcut:Nat
 vsweep:Value
 vkeys:Nat→Value
 vreads:Nat→Value
 vbonds:Nat→Value
 vpairs:Nat→Value
 vnext:Nat→Value
 vcall:Nat→Value
 taleCs:List Value
 cutCs:List Value
 mp:Int
 mt:Nat→Int
 vover:Nat→Bool
def Book.tp (A:Book) (σ:St) (s:Nat):Value:=match σ.txns.getD s none with|some _=>ptr (A.bt s)|none=>.pointer none
def Book.sv (A:Book) (x:Option S):Value:=bif x.isNone then .nilFunc else A.vsweep
def Book.ctf (A:Book):Value×Bool×Nat×List Value:=(A.vcut,A.hcut,A.gcut,A.cutCs)
def Book.swf (A:Book):Value×Value×Bool×Nat×List Value:=(A.vsweep,A.ctf)
def engCs (A:Book) (σ:St):List Value:=
 [i64 σ.slots, u64 σ.limit, ptr A.ba, ptr A.bp, .slice (some ⟨A.bv, 0, none⟩) σ.slots σ.slots,
  A.tp σ 0,A.tp σ 1,A.tp σ 2,A.tp σ 3,A.tp σ 4,A.tp σ 5,A.tp σ 6,A.tp σ 7,
  A.vcall 0,A.vcall 1,A.vcall 2,A.vcall 3,A.vcall 4,A.vcall 5,A.vcall 6,A.vcall 7,
  i64 σ.made,i64 σ.seq,i64 σ.looks,A.vtale,A.sv σ.sw,u64 σ.low,A.vcut,.bool false]
def arenaCs (A:Book) (σ:St):List Value:=[.slice (some ⟨A.bw,0,none⟩) σ.words.length σ.words.length,i64 σ.count]
def onceCs (b:Bool) (m:Int):List Value:=[.int .u32 (if b then 1 else 0),.int .i32 m,.int .u32 0]
def poolCs (A:Book) (σ:St):List Value:=[.slice (some ⟨A.bs,0,none⟩) σ.slots σ.slots,i64 65535,A.vfree,i64 σ.worn]++onceCs σ.listed A.mp
def two (l:List (Value×Value)):List Value:=l.flatMap fun p=>[p.1,p.2]
def tagCs (σ:St):List Value:=two (σ.tags.map fun p=>(i64 p.1,.bool p.2))
def valueCs (σ:St):List Value:=two (σ.values.map fun p=>(i64 p.1,i64 p.2))
def txnCs (A:Book) (s:Nat) (t:Txn):List Value:=
 [i64 t.id,i64 t.level,i64 s,u64 t.begin_,u64 t.end_,i64 t.ops,A.vkeys s,.map (some (A.bm s)),A.vreads s,A.vbonds s]++onceCs t.over (A.mt s)++[.bool (A.vover s)]
def callCs (A:Book) (s:Nat) (c:Cal):List Value:=
 [i64 c.op.kind,i64 c.op.key,i64 c.op.hi,i64 c.op.value,A.vnext s,i64 c.r.e,i64 c.r.value,A.vpairs s,i64 c.r.over,i64 c.r.reason,.bool c.waits,.bool c.over,i64 c.seq]
def celCs (x:Cel):List Value:=[u64 x.own,u64 x.old,.bool x.there]
def mapEs (A:Book) (s:Nat) (t:Txn):List MapEntry:=t.cells.reverse.zipIdx.map fun p=>⟨i64 p.1.1,ptr (A.bx s p.1.1),p.2⟩
def readCs (l:List (Nat×Nat×Bool)):List Value:=l.flatMap fun r=>[i64 r.1,u64 r.2.1,.bool r.2.2]
def pairCs (l:List (Nat×Nat)):List Value:=two (l.map fun p=>(i64 p.1,i64 p.2))
def memOf (A:Book) (σ:St):Role→Entry
 |.eng=>.obj A.be (engCs A σ) 132
 |.arena=>.obj A.ba (arenaCs A σ) 218
 |.words=>.obj A.bw (σ.words.map u64) 226
 |.pool=>.obj A.bp (poolCs A σ) 221
 |.tags=>.obj A.bs (tagCs σ) 308
 |.free=>.own A.vfree 3 1 σ.free.length (σ.free.map i64)
 |.values=>.obj A.bv (valueCs σ) 176
 |.tale=>.own A.vtale 170 12 σ.tale.length A.taleCs
 |.cut=>bif A.hcut then .obj A.gcut A.cutCs 283 else .none
 |.tmp=>.none
 |.txn s=>match σ.txns.getD s none with|some t=>.obj (A.bt s) (txnCs A s t) 158|none=>.none
 |.map s=>match σ.txns.getD s none with|some t=>.map (A.bm s) (mapEs A s t) t.cells.length|none=>.none
 |.cell s key=>match (σ.txns.getD s none).bind (·.cell key) with|some x=>.obj (A.bx s key) (celCs x) 324|none=>.none
 |.keys s=>match σ.txns.getD s none with|some t=>.own (A.vkeys s) 3 1 t.keys.length (t.keys.map i64)|none=>.none
 |.reads s=>match σ.txns.getD s none with|some t=>.own (A.vreads s) 359 3 t.reads.length (readCs t.reads)|none=>.none
 |.bonds s=>match σ.txns.getD s none with|some t=>.own (A.vbonds s) 3 1 t.bonds.length (t.bonds.map i64)|none=>.none
 |.call s=>match σ.calls.getD s none with|some c=>.obj (A.bc s) (callCs A s c) 237|none=>.none
 |.pairs s=>match σ.calls.getD s none with|some c=>.own (A.vpairs s) 172 2 c.r.pairs.length (pairCs c.r.pairs)|none=>.none
end Go.Proofs.YtiimlopcifljeaaGreatDoor.Em
namespace Go.Proofs.YtiimlopcifljeaaGreatDoor.Em
open Go.ChangeShapes Go.WideShapes Go.ChangeAt Go.RowKit En
set_option linter.unusedVariables false
def evCs (e:Ev) (vp:Value):List Value:=
 [i64 e.kind,i64 e.t,u64 e.n,i64 e.op.kind,i64 e.op.key,i64 e.op.hi,i64 e.op.value,i64 e.res.e,i64 e.res.value,vp,i64 e.res.over,i64 e.res.reason]
def PRow (L:Lab) (w:World) (v:Value) (xs:List Value):Prop:=FRow L w 2 v xs∧∀ g off n cap,v=.slice (some ⟨g,off,none⟩) n cap→n=0∨∃ cs,w.heap[g]? =some (.cells cs 172)
theorem PRow.nil (L:Lab) (w:World):PRow L w (.slice none 0 0) []:=⟨FRow.nil L w 2,fun g off n cap h=>by simp at h⟩
theorem PRow.grow {L L':Lab} {w w':World} {v:Value} {xs:List Value} (h:PRow L w v xs) (g:Grow L w L' w'):PRow L' w' v xs:=by
 refine⟨h.1.grow g,fun b off n cap hv=>?_⟩
 rcases h.2 b off n cap hv with h0|⟨cs,hc⟩
 · exact .inl h0
 · by_cases hn:n=0
   · exact .inl hn
   · obtain⟨a,n',cap',e1,e2,e3,e4,e5⟩:=h.1
     obtain⟨rfl,rfl,rfl⟩:a=some ⟨b,off,none⟩∧n'=n∧cap'=cap:=by rw[hv] at e1;simp at e1;exact⟨e1.1.symm,e1.2.1.symm,e1.2.2.symm⟩
     obtain⟨b',off',e6,e7,e8,_⟩:=e5.resolve_left hn;obtain⟨rfl,rfl⟩:b=b'∧off=off':=by simpa using e6
     exact .inr ⟨cs,(g.block b e8 e7).trans hc⟩
def Evs (L:Lab) (w:World):List Ev→List Value→Prop
 |[],xs=>xs=[]
 |e::l,xs=>∃ vp ys,xs=evCs e vp++ys∧PRow L w vp (pairCs e.res.pairs)∧Evs L w l ys
theorem Evs.grow {L L':Lab} {w w':World} (g:Grow L w L' w'):∀ {l:List Ev} {xs:List Value},Evs L w l xs→Evs L' w' l xs
 |[],_,h=>h
 |_::_,_,⟨vp,ys,h1,h2,h3⟩=>⟨vp,ys,h1,h2.grow g,Evs.grow g h3⟩
theorem Evs.snoc {L:Lab} {w:World} {e:Ev} {vp:Value} (hp:PRow L w vp (pairCs e.res.pairs)):∀ {l:List Ev} {xs:List Value},Evs L w l xs→Evs L w (l++[e]) (xs++evCs e vp)
 |[],xs,h=>by
  have h0:xs=[]:=h;subst h0;exact⟨vp,[],by simp,hp,rfl⟩
 |_::_,_,⟨v,ys,h1,h2,h3⟩=>⟨v,ys++evCs e vp,by rw[h1,List.append_assoc],h2,Evs.snoc hp h3⟩
structure Rep (A:Book) (σ:St) (w:World):Prop where
 mem:Holds A.L w (memOf A σ)
 ev:Evs A.L w σ.tale A.taleCs
 sl:1≤σ.slots∧σ.slots≤256
 nw:σ.words.length=73+σ.slots*3+2001
 nt:σ.tags.length=σ.slots
 nv:σ.values.length=σ.slots
 n8:σ.txns.length=8
 nc:σ.calls.length=8
theorem Rep.below {A:Book} {σ:St} {w w':World} (h:Rep A σ w) (hb:Below w.heap.size w w'):Rep A σ w':=⟨h.mem.below hb,h.ev.grow (Grow.below hb),h.sl,h.nw,h.nt,h.nv,h.n8,h.nc⟩
theorem Rep.alloc {A:Book} {σ:St} {w:World} (h:Rep A σ w) (o:Obj):Rep A σ (w.alloc o):=h.below ((Below.refl _ _).alloc (Nat.le_refl _) o)
theorem Rep.drew {A:Book} {σ:St} {w:World} (h:Rep A σ w):Rep A σ w.drew:=h.below (Below.refl _ _).drew
theorem Rep.drewN {A:Book} {σ:St} {w:World} (h:Rep A σ w) (n:Nat):Rep A σ (w.drewN n):=h.below ⟨rfl,rfl,rfl,Nat.le_refl _,fun _ _=>rfl⟩
theorem Rep.eng {A:Book} {σ:St} {w:World} (h:Rep A σ w) (i:Nat) {v:Value} (hv:(engCs A σ)[i]? =some v):w.cell? ⟨A.be,i,none⟩=some v:=h.mem.cell (r:=.eng) rfl i hv
theorem Rep.z2 {A:Book} {σ:St} {w:World} (h:Rep A σ w):w.cell? ⟨A.be,2,none⟩=some (.pointer (some ⟨A.ba,0,none⟩)):=h.eng 2 rfl
theorem Rep.engF {A:Book} {σ:St} {w:World} (h:Rep A σ w) (i:Nat):w.frozen? ⟨A.be,i,none⟩=false:=h.mem.frozen (r:=.eng) rfl i
theorem Rep.arena {A:Book} {σ:St} {w:World} (h:Rep A σ w) (i:Nat) {v:Value} (hv:(arenaCs A σ)[i]? =some v):w.cell? ⟨A.ba,i,none⟩=some v:=h.mem.cell (r:=.arena) rfl i hv
theorem Rep.arenaF {A:Book} {σ:St} {w:World} (h:Rep A σ w) (i:Nat):w.frozen? ⟨A.ba,i,none⟩=false:=h.mem.frozen (r:=.arena) rfl i
theorem Rep.word {A:Book} {σ:St} {w:World} (h:Rep A σ w) {i:Nat} (hi:i<σ.words.length):w.cell? ⟨A.bw,i,none⟩=some (zu (σ.word i:Int)):=by
 refine h.mem.cell (r:=.words) rfl i ?_;rw[List.getElem?_map,List.getElem?_eq_getElem hi];simp[St.word,List.getD,hi]
theorem Rep.wordF {A:Book} {σ:St} {w:World} (h:Rep A σ w) (i:Nat):w.frozen? ⟨A.bw,i,none⟩=false:=h.mem.frozen (r:=.words) rfl i
theorem txn_get {σ:St} {s:Nat} {t:Txn} (ht:σ.txns.getD s none=some t):σ.t s=t:=by unfold St.t;rw[ht];rfl
theorem call_get {σ:St} {s:Nat} {c:Cal} (hc:σ.calls.getD s none=some c):σ.c s=c:=by unfold St.c;rw[hc];rfl
theorem mem_txn {A:Book} {σ:St} {s:Nat} {t:Txn} (ht:σ.txns.getD s none=some t):memOf A σ (.txn s)=.obj (A.bt s) (txnCs A s t) 158:=by simp only[memOf,ht]
theorem mem_call {A:Book} {σ:St} {s:Nat} {c:Cal} (hc:σ.calls.getD s none=some c):memOf A σ (.call s)=.obj (A.bc s) (callCs A s c) 237:=by simp only[memOf,hc]
theorem Rep.txn {A:Book} {σ:St} {w:World} (h:Rep A σ w) {s:Nat} {t:Txn} (ht:σ.txns.getD s none=some t) (i:Nat) {v:Value} (hv:(txnCs A s t)[i]? =some v):w.cell? ⟨A.bt s,i,none⟩=some v:=h.mem.cell (mem_txn ht) i hv
theorem Rep.txnF {A:Book} {σ:St} {w:World} (h:Rep A σ w) {s:Nat} {t:Txn} (ht:σ.txns.getD s none=some t) (i:Nat):w.frozen? ⟨A.bt s,i,none⟩=false:=h.mem.frozen (mem_txn ht) i
theorem Rep.call {A:Book} {σ:St} {w:World} (h:Rep A σ w) {s:Nat} {c:Cal} (hc:σ.calls.getD s none=some c) (i:Nat) {v:Value} (hv:(callCs A s c)[i]? =some v):w.cell? ⟨A.bc s,i,none⟩=some v:=h.mem.cell (mem_call hc) i hv
theorem Rep.callF {A:Book} {σ:St} {w:World} (h:Rep A σ w) {s:Nat} {c:Cal} (hc:σ.calls.getD s none=some c) (i:Nat):w.frozen? ⟨A.bc s,i,none⟩=false:=h.mem.frozen (mem_call hc) i
/- Writing. -/
theorem Rep.tick {A:Book} {σ:St} {w:World} (h:Rep A σ w):Rep A σ.tick (w.setCell ⟨A.ba,1,none⟩ (zi ((σ.count:Int)+1)))∧Grow A.L w A.L (w.setCell ⟨A.ba,1,none⟩ (zi ((σ.count:Int)+1))):=by
 have g:=h.mem.grow_set (r:=.arena) rfl 1 (zi ((σ.count:Int)+1));exact⟨⟨h.mem.set .arena rfl 1 _ (by simp[memOf,arenaCs,St.tick]) (fun q hq=>by cases q<;>first|rfl|exact absurd rfl hq),h.ev.grow g,h.sl,h.nw,h.nt,h.nv,h.n8,h.nc⟩,g⟩
theorem Rep.store {A:Book} {σ:St} {w:World} (h:Rep A σ w) (i n:Nat):Rep A {σ with words:=σ.words.set i n} (w.setCell ⟨A.bw,i,none⟩ (zu (n:Int)))∧Grow A.L w A.L (w.setCell ⟨A.bw,i,none⟩ (zu (n:Int))):=by
 have g:=h.mem.grow_set (r:=.words) rfl i (zu (n:Int));exact⟨⟨h.mem.set .words rfl i _ (by simp[memOf,List.map_set]) (fun q hq=>by cases q<;>first|rfl|exact absurd rfl hq|(simp[memOf,arenaCs])),h.ev.grow g,h.sl,by simpa using h.nw,h.nt,h.nv,h.n8,h.nc⟩,g⟩
theorem Rep.put {A:Book} {σ:St} {w:World} (h:Rep A σ w) (i n:Nat):Rep A (σ.put i n) ((w.setCell ⟨A.ba,1,none⟩ (zi ((σ.count:Int)+1))).setCell ⟨A.bw,i,none⟩ (zu (n:Int)))∧Grow A.L w A.L ((w.setCell ⟨A.ba,1,none⟩ (zi ((σ.count:Int)+1))).setCell ⟨A.bw,i,none⟩ (zu (n:Int))):=by
 obtain⟨h1,g1⟩:=h.tick;obtain⟨h2,g2⟩:=h1.store i n;exact⟨h2,g1.trans g2⟩
end Go.Proofs.YtiimlopcifljeaaGreatDoor.Em
namespace Go.Proofs.YtiimlopcifljeaaGreatDoor.Em
open Go.ChangeShapes Go.WideShapes Go.ChangeAt Go.RowKit En
set_option linter.unusedVariables false
set_option linter.unusedSimpArgs false
theorem getD_set {α:Type} (l:List α) (s q:Nat) (x d:α) (hs:s<l.length):(l.set s x).getD q d=if q=s then x else l.getD q d:=by
 simp only[List.getD_eq_getElem?_getD,List.getElem?_set]
 by_cases h:s=q
 · subst h;simp[hs]
 · simp[h,Ne.symm h]
theorem getT_set {σ:St} {s:Nat} (hs:s<σ.txns.length) (t:Txn) (q:Nat):(σ.setT s t).txns.getD q none=if q=s then some t else σ.txns.getD q none:=getD_set _ _ _ _ _ hs
theorem getC_set {σ:St} {s:Nat} (hs:s<σ.calls.length) (c:Cal) (q:Nat):(σ.setC s c).calls.getD q none=if q=s then some c else σ.calls.getD q none:=getD_set _ _ _ _ _ hs
theorem lt_of_txn {σ:St} {s:Nat} {t:Txn} (ht:σ.txns.getD s none=some t):s<σ.txns.length:=by
 rcases Nat.lt_or_ge s σ.txns.length with h|h
 · exact h
 · simp[List.getD_eq_getElem?_getD,List.getElem?_eq_none h] at ht
theorem lt_of_call {σ:St} {s:Nat} {c:Cal} (hc:σ.calls.getD s none=some c):s<σ.calls.length:=by
 rcases Nat.lt_or_ge s σ.calls.length with h|h
 · exact h
 · simp[List.getD_eq_getElem?_getD,List.getElem?_eq_none h] at hc
theorem tp_setT (A:Book) {σ:St} {s:Nat} {t:Txn} (ht:σ.txns.getD s none=some t) (t':Txn) (q:Nat):A.tp (σ.setT s t') q=A.tp σ q:=by
 unfold Book.tp;rw[getT_set (lt_of_txn ht)]
 by_cases h:q=s
 · subst h;rw[if_pos rfl,ht]
 · rw[if_neg h]
def txEntry (A:Book) (s:Nat) (t:Option Txn):Role→Entry
 |.txn _=>match t with|some t=>.obj (A.bt s) (txnCs A s t) 158|none=>.none
 |.map _=>match t with|some t=>.map (A.bm s) (mapEs A s t) t.cells.length|none=>.none
 |.cell _ key=>match t.bind (·.cell key) with|some x=>.obj (A.bx s key) (celCs x) 324|none=>.none
 |.keys _=>match t with|some t=>.own (A.vkeys s) 3 1 t.keys.length (t.keys.map i64)|none=>.none
 |.reads _=>match t with|some t=>.own (A.vreads s) 359 3 t.reads.length (readCs t.reads)|none=>.none
 |.bonds _=>match t with|some t=>.own (A.vbonds s) 3 1 t.bonds.length (t.bonds.map i64)|none=>.none
 |_=>.none
def Role.tx:Role→Option Nat
 |.txn s|.map s|.cell s _|.keys s|.reads s|.bonds s=>some s
 |_=>none
theorem mem_tx (A:Book) (σ:St) {q:Role} {s:Nat} (h:q.tx=some s):memOf A σ q=txEntry A s (σ.txns.getD s none) q:=by
 cases q<;>simp[Role.tx] at h<;>subst h<;>rfl
theorem mem_setT_not (A:Book) {σ:St} {s:Nat} {t:Txn} (ht:σ.txns.getD s none=some t) (t':Txn) {q:Role} (h:q.tx≠some s):memOf A (σ.setT s t') q=memOf A σ q:=by
 cases hq:q.tx with
 |none=>
  cases q<;>first|rfl|(simp[Role.tx] at hq;done)|skip
  simp only[memOf];simp only[engCs,tp_setT A ht];rfl
 |some k=>
  have hk:k≠s:=by rintro rfl;exact h hq
  rw[mem_tx A _ hq,mem_tx A _ hq,getT_set (lt_of_txn ht),if_neg hk]
theorem Rep.setTxn {A:Book} {σ:St} {w:World} (h:Rep A σ w) {s:Nat} {t:Txn} (ht:σ.txns.getD s none=some t) (t':Txn) (i:Nat) (v:Value) (hcs:txnCs A s t'=(txnCs A s t).set i v)
 (h1:t'.cells=t.cells) (h2:t'.keys=t.keys) (h3:t'.reads=t.reads) (h4:t'.bonds=t.bonds):Rep A (σ.setT s t') (w.setCell ⟨A.bt s,i,none⟩ v)∧Grow A.L w A.L (w.setCell ⟨A.bt s,i,none⟩ v):=by
 have g:=h.mem.grow_set (mem_txn ht) i v;refine⟨⟨h.mem.set (.txn s) (mem_txn ht) i v ?_ ?_,h.ev.grow g,h.sl,h.nw,h.nt,h.nv,by simpa [St.setT] using h.n8,h.nc⟩,g⟩
 · rw[mem_tx A _ (s:=s) rfl,getT_set (lt_of_txn ht),if_pos rfl]
   simp only[txEntry,hcs]
 · intro q hq
   by_cases hs:q.tx=some s
   · rw[mem_tx A _ hs,mem_tx A _ hs,getT_set (lt_of_txn ht),if_pos rfl,ht]
     cases q<;>simp[Role.tx] at hs<;>subst hs<;>first|exact absurd rfl hq|(simp[txEntry,mapEs,Txn.cell,h1,h2,h3,h4];done)
   · exact mem_setT_not A ht t' hs
/- A call's parts. -/
def clEntry (A:Book) (s:Nat) (c:Option Cal):Role→Entry
 |.call _=>match c with|some c=>.obj (A.bc s) (callCs A s c) 237|none=>.none
 |.pairs _=>match c with|some c=>.own (A.vpairs s) 172 2 c.r.pairs.length (pairCs c.r.pairs)|none=>.none
 |_=>.none
def Role.cl:Role→Option Nat
 |.call s|.pairs s=>some s
 |_=>none
theorem mem_cl (A:Book) (σ:St) {q:Role} {s:Nat} (h:q.cl=some s):memOf A σ q=clEntry A s (σ.calls.getD s none) q:=by
 cases q<;>simp[Role.cl] at h<;>subst h<;>rfl
theorem mem_setC_not (A:Book) {σ:St} {s:Nat} {c:Cal} (hc:σ.calls.getD s none=some c) (c':Cal) {q:Role} (h:q.cl≠some s):memOf A (σ.setC s c') q=memOf A σ q:=by
 cases hq:q.cl with
 |none=>
  cases q<;>first|rfl|(simp[Role.cl] at hq;done)
 |some k=>
  have hk:k≠s:=by rintro rfl;exact h hq
  rw[mem_cl A _ hq,mem_cl A _ hq,getC_set (lt_of_call hc),if_neg hk]
theorem Rep.setCall {A:Book} {σ:St} {w:World} (h:Rep A σ w) {s:Nat} {c:Cal} (hc:σ.calls.getD s none=some c) (c':Cal) (i:Nat) (v:Value) (hcs:callCs A s c'=(callCs A s c).set i v)
 (h1:c'.r.pairs=c.r.pairs):Rep A (σ.setC s c') (w.setCell ⟨A.bc s,i,none⟩ v)∧Grow A.L w A.L (w.setCell ⟨A.bc s,i,none⟩ v):=by
 have g:=h.mem.grow_set (mem_call hc) i v;refine⟨⟨h.mem.set (.call s) (mem_call hc) i v ?_ ?_,h.ev.grow g,h.sl,h.nw,h.nt,h.nv,h.n8,by simpa [St.setC] using h.nc⟩,g⟩
 · rw[mem_cl A _ (s:=s) rfl,getC_set (lt_of_call hc),if_pos rfl]
   simp only[clEntry,hcs]
 · intro q hq
   by_cases hs:q.cl=some s
   · rw[mem_cl A _ hs,mem_cl A _ hs,getC_set (lt_of_call hc),if_pos rfl,hc]
     cases q<;>simp[Role.cl] at hs<;>subst hs<;>first|exact absurd rfl hq|(simp[clEntry,h1];done)
   · exact mem_setC_not A hc c' hs
end Go.Proofs.YtiimlopcifljeaaGreatDoor.Em
namespace Go.Proofs.YtiimlopcifljeaaGreatDoor.Em
open Go.ChangeShapes Go.WideShapes Go.ChangeAt Go.RowKit En
set_option linter.unusedVariables false
set_option linter.unusedSimpArgs false
def upF (f:Nat→Value) (s:Nat) (v:Value):Nat→Value:=fun k=>if k=s then v else f k
theorem Holds.of_eq {L:Lab} {w:World} {m m':Role→Entry} (h:Holds L w m) (e:∀ q,m' q=m q):Holds L w m':=⟨fun q=>by rw[e];exact h.all q,h.fresh⟩
theorem upF_same (f:Nat→Value) (s:Nat) (v:Value):upF f s v s=v:=if_pos rfl
theorem upF_other (f:Nat→Value) {s k:Nat} (v:Value) (h:k≠s):upF f s v k=f k:=if_neg h
structure Book.ButTx (A A':Book) (s:Nat):Prop where
 be:A'.be=A.be
 ba:A'.ba=A.ba
 bw:A'.bw=A.bw
 bp:A'.bp=A.bp
 bs:A'.bs=A.bs
 bv:A'.bv=A.bv
 bt:A'.bt=A.bt
 bc:A'.bc=A.bc
 vfree:A'.vfree=A.vfree
 vtale:A'.vtale=A.vtale
 vcut:A'.ctf=A.ctf
 vsweep:A'.vsweep=A.vsweep
 taleCs:A'.taleCs=A.taleCs
 vnext:A'.vnext=A.vnext
 vcall:A'.vcall=A.vcall
 vpairs:A'.vpairs=A.vpairs
 mp:A'.mp=A.mp
 bm:∀ k,k≠s→A'.bm k=A.bm k
 bx:∀ k,k≠s→A'.bx k=A.bx k
 vkeys:∀ k,k≠s→A'.vkeys k=A.vkeys k
 vreads:∀ k,k≠s→A'.vreads k=A.vreads k
 vbonds:∀ k,k≠s→A'.vbonds k=A.vbonds k
 mt:∀ k,k≠s→A'.mt k=A.mt k
 vover:∀ k,k≠s→A'.vover k=A.vover k
theorem mem_butTx {A A':Book} {s:Nat} (h:A.ButTx A' s) (σ:St) {q:Role} (hq:q.tx≠some s):memOf A' σ q=memOf A σ q:=by
 have c1:A'.vcut=A.vcut:=congrArg (·.1) h.vcut;have c2:A'.hcut=A.hcut:=congrArg (·.2.1) h.vcut;have c3:A'.gcut=A.gcut:=congrArg (·.2.2.1) h.vcut;have c4:A'.cutCs=A.cutCs:=congrArg (·.2.2.2) h.vcut;have tp:∀ k,A'.tp σ k=A.tp σ k:=fun k=>by unfold Book.tp;rw[h.bt]
 have tc:∀ k,k≠s→∀ t,txnCs A' k t=txnCs A k t:=fun k hk t=>by simp only[txnCs,h.bm k hk,h.vkeys k hk,h.vreads k hk,h.vbonds k hk,h.mt k hk,h.vover k hk]
 have me:∀ k,k≠s→∀ t,mapEs A' k t=mapEs A k t:=fun k hk t=>by simp only[mapEs,h.bx k hk]
 have cc:∀ k c,callCs A' k c=callCs A k c:=fun k c=>by simp only[callCs,h.vnext,h.vpairs]
 cases q<;>simp only[Role.tx,ne_eq,Option.some.injEq,not_false_eq_true] at hq<;>first
  |(simp only[memOf,engCs,Book.sv,arenaCs,poolCs,tagCs,valueCs,tp,h.vcall,h.be,h.ba,h.bw,h.bp,h.bs,h.bv,h.vfree,h.vtale,c1,c2,c3,c4,h.vsweep,h.taleCs,h.bc,h.vpairs,h.mp,cc];done)
  |(simp only[memOf,h.bt,tc _ hq];done)
  |(simp only[memOf,h.bm _ hq,me _ hq];done)
  |(simp only[memOf,h.bx _ hq];done)
  |(simp only[memOf,h.vkeys _ hq];done)
  |(simp only[memOf,h.vreads _ hq];done)
  |(simp only[memOf,h.vbonds _ hq];done)
theorem mem_keys {A:Book} {σ:St} {s:Nat} {t:Txn} (ht:σ.txns.getD s none=some t):memOf A σ (.keys s)=.own (A.vkeys s) 3 1 t.keys.length (t.keys.map i64):=by simp only[memOf,ht]
def Book.setKeys (A:Book) (s:Nat) (v:Value):Book:={A with L:=labV A.L v (.keys s),vkeys:=upF A.vkeys s v}
theorem Rep.keysOn {A:Book} {σ:St} {w w1:World} (h:Rep A σ w) {s:Nat} {t:Txn} (ht:σ.txns.getD s none=some t) (l:List _) (v':Value)
 (hg:w.grownBy w1 (A.vkeys s).ownBlock) (ho:w1.ownsRow 0 3 1 v' l.length (l.map i64)) (hw:v'.ownBlock=(A.vkeys s).ownBlock∨∀ g,v'.ownBlock=some g→w.heap.size≤g):
 Rep (A.setKeys s v') (σ.setT s {t with keys:=l}) (w1.setCell ⟨A.bt s,6,none⟩ v')∧Grow A.L w (A.setKeys s v').L (w1.setCell ⟨A.bt s,6,none⟩ v')∧w1.cell? ⟨A.bt s,6,none⟩=some (A.vkeys s)∧w1.frozen? ⟨A.bt s,6,none⟩=false:=by
 obtain⟨h1,g1⟩:=h.mem.grown (.keys s) (mem_keys ht) hg ho hw;have e2:updE (memOf A σ) (.keys s) (.own v' 3 1 l.length (l.map i64)) (.txn s)=.obj (A.bt s) (txnCs A s t) 158:=by rw[updE_other _ _ (by simp),mem_txn ht]
 have h2:=h1.put (.txn s) e2 6 v';have g2:=h1.grow_set e2 6 v';have g:=g1.trans g2;refine⟨⟨?_,h.ev.grow g,h.sl,h.nw,h.nt,h.nv,by simpa [St.setT] using h.n8,h.nc⟩,g,h1.cell e2 6 rfl,h1.frozen e2 6⟩;refine h2.of_eq fun q=>?_
 by_cases hs:q.tx=some s
 · rw[mem_tx _ _ hs,getT_set (lt_of_txn ht),if_pos rfl]
   unfold updE;rw[mem_tx A _ hs,ht]
   cases q<;>simp[Role.tx] at hs<;>subst hs<;>simp[txEntry,mapEs,Txn.cell,txnCs,Book.setKeys,upF]
 · have e3:q≠.keys s:=by rintro rfl;exact hs rfl
   have e4:q≠.txn s:=by rintro rfl;exact hs rfl
   rw[updE_other _ _ e4,updE_other _ _ e3,mem_setT_not _ ht _ hs];exact mem_butTx (A:=A) (A':=A.setKeys s v') ⟨rfl,rfl,rfl,rfl,rfl,rfl,rfl,rfl,rfl,rfl,rfl,rfl,rfl,rfl,rfl,rfl,rfl,fun k hk=>by first|rfl|exact upF_other _ _ hk,fun k hk=>by first|rfl|exact upF_other _ _ hk,fun k hk=>by first|rfl|exact upF_other _ _ hk,fun k hk=>by first|rfl|exact upF_other _ _ hk,fun k hk=>by first|rfl|exact upF_other _ _ hk,fun _ _=>rfl,fun _ _=>rfl⟩ σ hs
theorem mem_reads {A:Book} {σ:St} {s:Nat} {t:Txn} (ht:σ.txns.getD s none=some t):memOf A σ (.reads s)=.own (A.vreads s) 359 3 t.reads.length (readCs t.reads):=by simp only[memOf,ht]
def Book.setReads (A:Book) (s:Nat) (v:Value):Book:={A with L:=labV A.L v (.reads s),vreads:=upF A.vreads s v}
theorem Rep.readsOn {A:Book} {σ:St} {w w1:World} (h:Rep A σ w) {s:Nat} {t:Txn} (ht:σ.txns.getD s none=some t) (l:List _) (v':Value)
 (hg:w.grownBy w1 (A.vreads s).ownBlock) (ho:w1.ownsRow 0 359 3 v' l.length (readCs l)) (hw:v'.ownBlock=(A.vreads s).ownBlock∨∀ g,v'.ownBlock=some g→w.heap.size≤g):
 Rep (A.setReads s v') (σ.setT s {t with reads:=l}) (w1.setCell ⟨A.bt s,8,none⟩ v')∧Grow A.L w (A.setReads s v').L (w1.setCell ⟨A.bt s,8,none⟩ v')∧w1.cell? ⟨A.bt s,8,none⟩=some (A.vreads s)∧w1.frozen? ⟨A.bt s,8,none⟩=false:=by
 obtain⟨h1,g1⟩:=h.mem.grown (.reads s) (mem_reads ht) hg ho hw;have e2:updE (memOf A σ) (.reads s) (.own v' 359 3 l.length (readCs l)) (.txn s)=.obj (A.bt s) (txnCs A s t) 158:=by rw[updE_other _ _ (by simp),mem_txn ht]
 have h2:=h1.put (.txn s) e2 8 v';have g2:=h1.grow_set e2 8 v';have g:=g1.trans g2;refine⟨⟨?_,h.ev.grow g,h.sl,h.nw,h.nt,h.nv,by simpa [St.setT] using h.n8,h.nc⟩,g,h1.cell e2 8 rfl,h1.frozen e2 8⟩;refine h2.of_eq fun q=>?_
 by_cases hs:q.tx=some s
 · rw[mem_tx _ _ hs,getT_set (lt_of_txn ht),if_pos rfl]
   unfold updE;rw[mem_tx A _ hs,ht]
   cases q<;>simp[Role.tx] at hs<;>subst hs<;>simp[txEntry,mapEs,Txn.cell,txnCs,Book.setReads,upF]
 · have e3:q≠.reads s:=by rintro rfl;exact hs rfl
   have e4:q≠.txn s:=by rintro rfl;exact hs rfl
   rw[updE_other _ _ e4,updE_other _ _ e3,mem_setT_not _ ht _ hs];exact mem_butTx (A:=A) (A':=A.setReads s v') ⟨rfl,rfl,rfl,rfl,rfl,rfl,rfl,rfl,rfl,rfl,rfl,rfl,rfl,rfl,rfl,rfl,rfl,fun k hk=>by first|rfl|exact upF_other _ _ hk,fun k hk=>by first|rfl|exact upF_other _ _ hk,fun k hk=>by first|rfl|exact upF_other _ _ hk,fun k hk=>by first|rfl|exact upF_other _ _ hk,fun k hk=>by first|rfl|exact upF_other _ _ hk,fun _ _=>rfl,fun _ _=>rfl⟩ σ hs
theorem mem_bonds {A:Book} {σ:St} {s:Nat} {t:Txn} (ht:σ.txns.getD s none=some t):memOf A σ (.bonds s)=.own (A.vbonds s) 3 1 t.bonds.length (t.bonds.map i64):=by simp only[memOf,ht]
def Book.setBonds (A:Book) (s:Nat) (v:Value):Book:={A with L:=labV A.L v (.bonds s),vbonds:=upF A.vbonds s v}
theorem Rep.bondsOn {A:Book} {σ:St} {w w1:World} (h:Rep A σ w) {s:Nat} {t:Txn} (ht:σ.txns.getD s none=some t) (l:List _) (v':Value)
 (hg:w.grownBy w1 (A.vbonds s).ownBlock) (ho:w1.ownsRow 0 3 1 v' l.length (l.map i64)) (hw:v'.ownBlock=(A.vbonds s).ownBlock∨∀ g,v'.ownBlock=some g→w.heap.size≤g):
 Rep (A.setBonds s v') (σ.setT s {t with bonds:=l}) (w1.setCell ⟨A.bt s,9,none⟩ v')∧Grow A.L w (A.setBonds s v').L (w1.setCell ⟨A.bt s,9,none⟩ v')∧w1.cell? ⟨A.bt s,9,none⟩=some (A.vbonds s)∧w1.frozen? ⟨A.bt s,9,none⟩=false:=by
 obtain⟨h1,g1⟩:=h.mem.grown (.bonds s) (mem_bonds ht) hg ho hw;have e2:updE (memOf A σ) (.bonds s) (.own v' 3 1 l.length (l.map i64)) (.txn s)=.obj (A.bt s) (txnCs A s t) 158:=by rw[updE_other _ _ (by simp),mem_txn ht]
 have h2:=h1.put (.txn s) e2 9 v';have g2:=h1.grow_set e2 9 v';have g:=g1.trans g2;refine⟨⟨?_,h.ev.grow g,h.sl,h.nw,h.nt,h.nv,by simpa [St.setT] using h.n8,h.nc⟩,g,h1.cell e2 9 rfl,h1.frozen e2 9⟩;refine h2.of_eq fun q=>?_
 by_cases hs:q.tx=some s
 · rw[mem_tx _ _ hs,getT_set (lt_of_txn ht),if_pos rfl]
   unfold updE;rw[mem_tx A _ hs,ht]
   cases q<;>simp[Role.tx] at hs<;>subst hs<;>simp[txEntry,mapEs,Txn.cell,txnCs,Book.setBonds,upF]
 · have e3:q≠.bonds s:=by rintro rfl;exact hs rfl
   have e4:q≠.txn s:=by rintro rfl;exact hs rfl
   rw[updE_other _ _ e4,updE_other _ _ e3,mem_setT_not _ ht _ hs];exact mem_butTx (A:=A) (A':=A.setBonds s v') ⟨rfl,rfl,rfl,rfl,rfl,rfl,rfl,rfl,rfl,rfl,rfl,rfl,rfl,rfl,rfl,rfl,rfl,fun k hk=>by first|rfl|exact upF_other _ _ hk,fun k hk=>by first|rfl|exact upF_other _ _ hk,fun k hk=>by first|rfl|exact upF_other _ _ hk,fun k hk=>by first|rfl|exact upF_other _ _ hk,fun k hk=>by first|rfl|exact upF_other _ _ hk,fun _ _=>rfl,fun _ _=>rfl⟩ σ hs
end Go.Proofs.YtiimlopcifljeaaGreatDoor.Em
namespace Go.Proofs.YtiimlopcifljeaaGreatDoor.Em
open Go.ChangeShapes Go.WideShapes Go.ChangeAt Go.RowKit En
set_option linter.unusedVariables false
set_option linter.unusedSimpArgs false
theorem Rep.engSet {A A':Book} {σ σ':St} {w:World} (h:Rep A σ w) (hL:A'.L=A.L) (i:Nat) (v:Value) (hcs:memOf A' σ' .eng=.obj A.be ((engCs A σ).set i v) 132) (hm:∀ q,q≠.eng→memOf A' σ' q=memOf A σ q)
 (h0:σ'.tale=σ.tale) (h0':A'.taleCs=A.taleCs) (h1:σ'.slots=σ.slots) (h2:σ'.words.length=σ.words.length) (h3:σ'.tags.length=σ.tags.length) (h4:σ'.values.length=σ.values.length) (h5:σ'.txns.length=σ.txns.length) (h6:σ'.calls.length=σ.calls.length):
 Rep A' σ' (w.setCell ⟨A.be,i,none⟩ v)∧Grow A.L w A'.L (w.setCell ⟨A.be,i,none⟩ v):=by
 have g:=h.mem.grow_set (r:=.eng) rfl i v;rw[hL];exact⟨⟨hL ▸ h.mem.set .eng rfl i v hcs hm,by rw[h0,h0',hL];exact h.ev.grow g,by rw[h1];exact h.sl,by rw[h2,h1];exact h.nw,by rw[h3,h1];exact h.nt,by rw[h4,h1];exact h.nv,h5.trans h.n8,h6.trans h.nc⟩,g⟩
theorem Rep.madeSet {A:Book} {σ:St} {w:World} (h:Rep A σ w) (n:Nat):Rep A {σ with made:=n} (w.setCell ⟨A.be,21,none⟩ (zi (n:Int)))∧Grow A.L w A.L (w.setCell ⟨A.be,21,none⟩ (zi (n:Int))):=
 h.engSet rfl 21 _ rfl (fun q hq=>by cases q<;>first|rfl|exact absurd rfl hq) rfl rfl rfl rfl rfl rfl rfl rfl
theorem Rep.seqSet {A:Book} {σ:St} {w:World} (h:Rep A σ w) (n:Nat):Rep A {σ with seq:=n} (w.setCell ⟨A.be,22,none⟩ (zi (n:Int)))∧Grow A.L w A.L (w.setCell ⟨A.be,22,none⟩ (zi (n:Int))):=
 h.engSet rfl 22 _ rfl (fun q hq=>by cases q<;>first|rfl|exact absurd rfl hq) rfl rfl rfl rfl rfl rfl rfl rfl
theorem Rep.looksSet {A:Book} {σ:St} {w:World} (h:Rep A σ w) (n:Nat):Rep A {σ with looks:=n} (w.setCell ⟨A.be,23,none⟩ (zi (n:Int)))∧Grow A.L w A.L (w.setCell ⟨A.be,23,none⟩ (zi (n:Int))):=
 h.engSet rfl 23 _ rfl (fun q hq=>by cases q<;>first|rfl|exact absurd rfl hq) rfl rfl rfl rfl rfl rfl rfl rfl
theorem Rep.vcallSet {A:Book} {σ:St} {w:World} (h:Rep A σ w) {s:Nat} (hs:s<8) (v:Value):Rep {A with vcall:=upF A.vcall s v} σ (w.setCell ⟨A.be,13+s,none⟩ v)∧Grow A.L w A.L (w.setCell ⟨A.be,13+s,none⟩ v):=by
 refine h.engSet (A':={A with vcall:=upF A.vcall s v}) rfl (13+s) v ?_ (fun q hq=>by cases q<;>first|rfl|exact absurd rfl hq) rfl rfl rfl rfl rfl rfl rfl rfl
 match s,hs with
 |0,_|1,_|2,_|3,_|4,_|5,_|6,_|7,_=>rfl
theorem engCs_txn (A:Book) (σ:St) {s:Nat} (hs:s<8):(engCs A σ)[5+s]? =some (A.tp σ s):=by
 match s,hs with
 |0,_|1,_|2,_|3,_|4,_|5,_|6,_|7,_=>rfl
theorem engCs_call (A:Book) (σ:St) {s:Nat} (hs:s<8):(engCs A σ)[13+s]? =some (A.vcall s):=by
 match s,hs with
 |0,_|1,_|2,_|3,_|4,_|5,_|6,_|7,_=>rfl
def Book.setTale (A:Book) (v:Value) (xs:List Value):Book:={A with L:=labV A.L v .tale,vtale:=v,taleCs:=xs}
theorem Rep.eventOn {A:Book} {σ:St} {w w1:World} (h:Rep A σ w) (e:Ev) (vp v':Value) (hp:PRow A.L w vp (pairCs e.res.pairs))
 (hg:w.grownBy w1 A.vtale.ownBlock) (ho:w1.ownsRow 0 170 12 v' (σ.tale.length+1) (A.taleCs++evCs e vp)) (hw:v'.ownBlock=A.vtale.ownBlock∨∀ g,v'.ownBlock=some g→w.heap.size≤g):
 Rep (A.setTale v' (A.taleCs++evCs e vp)) (σ.event e) (w1.setCell ⟨A.be,24,none⟩ v')∧Grow A.L w (A.setTale v' (A.taleCs++evCs e vp)).L (w1.setCell ⟨A.be,24,none⟩ v')∧w1.cell? ⟨A.be,24,none⟩=some A.vtale∧w1.frozen? ⟨A.be,24,none⟩=false:=by
 obtain⟨h1,g1⟩:=h.mem.grown .tale rfl hg ho hw;have e2:updE (memOf A σ) .tale (.own v' 170 12 (σ.tale.length+1) (A.taleCs++evCs e vp)) .eng=.obj A.be (engCs A σ) 132:=rfl;have h2:=h1.put .eng e2 24 v';have g:=g1.trans (h1.grow_set e2 24 v');refine⟨⟨?_,?_,h.sl,h.nw,h.nt,h.nv,h.n8,h.nc⟩,g,h1.cell e2 24 rfl,h1.frozen e2 24⟩
 · refine h2.of_eq fun q=>?_
   cases q<;>first|rfl|skip
   simp[memOf,updE,St.event,Book.setTale]
 · exact (h.ev.grow g).snoc (hp.grow g)
theorem mem_pairs {A:Book} {σ:St} {s:Nat} {c:Cal} (hc:σ.calls.getD s none=some c):memOf A σ (.pairs s)=.own (A.vpairs s) 172 2 c.r.pairs.length (pairCs c.r.pairs):=by simp only[memOf,hc]
structure Book.ButCl (A A':Book) (s:Nat):Prop where
 be:A'.be=A.be
 ba:A'.ba=A.ba
 bw:A'.bw=A.bw
 bp:A'.bp=A.bp
 bs:A'.bs=A.bs
 bv:A'.bv=A.bv
 bt:A'.bt=A.bt
 bm:A'.bm=A.bm
 bx:A'.bx=A.bx
 vfree:A'.vfree=A.vfree
 vtale:A'.vtale=A.vtale
 vcut:A'.ctf=A.ctf
 vsweep:A'.vsweep=A.vsweep
 taleCs:A'.taleCs=A.taleCs
 vcall:A'.vcall=A.vcall
 vkeys:A'.vkeys=A.vkeys
 vreads:A'.vreads=A.vreads
 vbonds:A'.vbonds=A.vbonds
 mp:A'.mp=A.mp
 mt:A'.mt=A.mt
 vover:A'.vover=A.vover
 bc:∀ k,k≠s→A'.bc k=A.bc k
 vnext:∀ k,k≠s→A'.vnext k=A.vnext k
 vpairs:∀ k,k≠s→A'.vpairs k=A.vpairs k
theorem mem_butCl {A A':Book} {s:Nat} (h:A.ButCl A' s) (σ:St) {q:Role} (hq:q.cl≠some s):memOf A' σ q=memOf A σ q:=by
 have c1:A'.vcut=A.vcut:=congrArg (·.1) h.vcut;have c2:A'.hcut=A.hcut:=congrArg (·.2.1) h.vcut;have c3:A'.gcut=A.gcut:=congrArg (·.2.2.1) h.vcut;have c4:A'.cutCs=A.cutCs:=congrArg (·.2.2.2) h.vcut;have tp:∀ k,A'.tp σ k=A.tp σ k:=fun k=>by unfold Book.tp;rw[h.bt]
 have tc:∀ k t,txnCs A' k t=txnCs A k t:=fun k t=>by simp only[txnCs,h.bm,h.vkeys,h.vreads,h.vbonds,h.mt,h.vover]
 have me:∀ k t,mapEs A' k t=mapEs A k t:=fun k t=>by simp only[mapEs,h.bx]
 have cc:∀ k,k≠s→∀ c,callCs A' k c=callCs A k c:=fun k hk c=>by simp only[callCs,h.vnext k hk,h.vpairs k hk]
 cases q<;>simp only[Role.cl,ne_eq,Option.some.injEq,not_false_eq_true] at hq<;>first
  |(simp only[memOf,engCs,Book.sv,arenaCs,poolCs,tagCs,valueCs,tp,h.vcall,h.be,h.ba,h.bw,h.bp,h.bs,h.bv,h.vfree,h.vtale,c1,c2,c3,c4,h.vsweep,h.taleCs,h.bt,h.bm,h.bx,h.vkeys,h.vreads,h.vbonds,h.mp,tc,me];done)
  |(simp only[memOf,h.bc _ hq,cc _ hq];done)
  |(simp only[memOf,h.vpairs _ hq];done)
theorem Rep.nextSet {A:Book} {σ:St} {w:World} (h:Rep A σ w) {s:Nat} {c:Cal} (hc:σ.calls.getD s none=some c) (v:Value) (k:Option K):
 Rep {A with vnext:=upF A.vnext s v} (σ.setC s {c with k:=k}) (w.setCell ⟨A.bc s,4,none⟩ v)∧Grow A.L w A.L (w.setCell ⟨A.bc s,4,none⟩ v):=by
 have g:=h.mem.grow_set (mem_call hc) 4 v;refine⟨⟨h.mem.set (.call s) (mem_call hc) 4 v ?_ ?_,h.ev.grow g,h.sl,h.nw,h.nt,h.nv,h.n8,by simpa [St.setC] using h.nc⟩,g⟩
 · rw[mem_cl _ _ (s:=s) rfl,getC_set (lt_of_call hc),if_pos rfl]
   simp[clEntry,callCs,upF]
 · intro q hq
   by_cases hs:q.cl=some s
   · rw[mem_cl _ _ hs,mem_cl A _ hs,getC_set (lt_of_call hc),if_pos rfl,hc]
     cases q<;>simp[Role.cl] at hs<;>subst hs<;>first|exact absurd rfl hq|(simp[clEntry];done)
   · rw[mem_setC_not _ hc _ hs]
     exact mem_butCl (A:=A) (A':={A with vnext:=upF A.vnext s v}) ⟨rfl,rfl,rfl,rfl,rfl,rfl,rfl,rfl,rfl,rfl,rfl,rfl,rfl,rfl,rfl,rfl,rfl,rfl,rfl,rfl,rfl,fun _ _=>rfl,fun k hk=>upF_other _ _ hk,fun _ _=>rfl⟩ σ hs
def Book.setPairs (A:Book) (s:Nat) (v:Value):Book:={A with L:=labV A.L v (.pairs s),vpairs:=upF A.vpairs s v}
theorem Rep.pairsOn {A:Book} {σ:St} {w w1:World} (h:Rep A σ w) {s:Nat} {c:Cal} (hc:σ.calls.getD s none=some c) (l:List (Nat×Nat)) (v':Value)
 (hg:w.grownBy w1 (A.vpairs s).ownBlock) (ho:w1.ownsRow 0 172 2 v' l.length (pairCs l)) (hw:v'.ownBlock=(A.vpairs s).ownBlock∨∀ g,v'.ownBlock=some g→w.heap.size≤g):
 Rep (A.setPairs s v') (σ.setC s {c with r:={c.r with pairs:=l}}) (w1.setCell ⟨A.bc s,7,none⟩ v')∧Grow A.L w (A.setPairs s v').L (w1.setCell ⟨A.bc s,7,none⟩ v')∧w1.cell? ⟨A.bc s,7,none⟩=some (A.vpairs s)∧w1.frozen? ⟨A.bc s,7,none⟩=false:=by
 obtain⟨h1,g1⟩:=h.mem.grown (.pairs s) (mem_pairs hc) hg ho hw;have e2:updE (memOf A σ) (.pairs s) (.own v' 172 2 l.length (pairCs l)) (.call s)=.obj (A.bc s) (callCs A s c) 237:=by rw[updE_other _ _ (by simp),mem_call hc]
 have h2:=h1.put (.call s) e2 7 v';have g:=g1.trans (h1.grow_set e2 7 v');refine⟨⟨?_,h.ev.grow g,h.sl,h.nw,h.nt,h.nv,h.n8,by simpa [St.setC] using h.nc⟩,g,h1.cell e2 7 rfl,h1.frozen e2 7⟩;refine h2.of_eq fun q=>?_
 by_cases hs:q.cl=some s
 · rw[mem_cl _ _ hs,getC_set (lt_of_call hc),if_pos rfl]
   unfold updE;rw[mem_cl A _ hs,hc]
   cases q<;>simp[Role.cl] at hs<;>subst hs<;>simp[clEntry,callCs,Book.setPairs,upF]
 · have e3:q≠.pairs s:=by rintro rfl;exact hs rfl
   have e4:q≠.call s:=by rintro rfl;exact hs rfl
   rw[updE_other _ _ e4,updE_other _ _ e3,mem_setC_not _ hc _ hs];exact mem_butCl (A:=A) (A':=A.setPairs s v') ⟨rfl,rfl,rfl,rfl,rfl,rfl,rfl,rfl,rfl,rfl,rfl,rfl,rfl,rfl,rfl,rfl,rfl,rfl,rfl,rfl,rfl,fun _ _=>rfl,fun _ _=>rfl,fun k hk=>upF_other _ _ hk⟩ σ hs
end Go.Proofs.YtiimlopcifljeaaGreatDoor.Em
namespace Go.Proofs.YtiimlopcifljeaaGreatDoor.Em
open Go.ChangeShapes Go.WideShapes Go.ChangeAt Go.RowKit En
set_option linter.unusedVariables false
set_option linter.unusedSimpArgs false
theorem Holds.none {L:Lab} {w:World} {m m':Role→Entry} (h:Holds L w m) (e:∀ q,m' q=m q∨m' q=.none):Holds L w m':=
 ⟨fun q=>by rcases e q with e|e<;>rw[e];exact h.all q;trivial,h.fresh⟩
def sets (cs:List Value):Nat→List Value→List Value
 |_,[]=>cs
 |o,v::r=>sets (cs.set o v) (o+1) r
theorem updE_id {m:Role→Entry} {r:Role} {e:Entry} (he:m r=e) (q:Role):updE m r e q=m q:=by
 unfold updE
 split
 · rename_i hq;rw[hq,he]
 · rfl
theorem Holds.puts {L:Lab} (r:Role) {b:Nat} {T:TypeId} (hr:r≠.tmp):∀ (vs:List Value) (o:Nat) {w:World} {m:Role→Entry} {cs:List Value},Holds L w m→m r=.obj b cs T→
 Holds L (w.setCells b o vs) (updE m r (.obj b (sets cs o vs) T))∧Grow L w L (w.setCells b o vs)
 |[],o,w,m,cs,h,he=>⟨h.of_eq (updE_id he),Grow.refl _ _⟩
 |v::vs,o,w,m,cs,h,he=>by
  have h1:=h.put r he o v;have g1:=h.grow_set he o v hr;obtain⟨h2,g2⟩:=Holds.puts r hr vs (o+1) h1 (updE_same _ _ _);refine⟨?_,g1.trans g2⟩;refine h2.of_eq fun q=>?_
  by_cases hq:q=r
  · subst hq;rw[updE_same,updE_same];rfl
  · rw[updE_other _ _ hq,updE_other _ _ hq,updE_other _ _ hq]
def Book.resPairs (A:Book) (s:Nat) (v:Value):Book:={A with vpairs:=upF A.vpairs s v}
theorem Rep.resSet {A:Book} {σ:St} {w:World} (h:Rep A σ w) {s:Nat} {c:Cal} (hc:σ.calls.getD s none=some c) (r:Res) (vp:Value)
 (hp:(vp=A.vpairs s∧r.pairs=c.r.pairs)∨(vp=.slice none 0 0∧r.pairs=[])):
 Rep (A.resPairs s vp) (σ.setC s {c with r:=r}) (w.setCells (A.bc s) 5 [i64 r.e,i64 r.value,vp,i64 r.over,i64 r.reason])∧Grow A.L w A.L (w.setCells (A.bc s) 5 [i64 r.e,i64 r.value,vp,i64 r.over,i64 r.reason]):=by
 have h1:Holds A.L w (updE (memOf A σ) (.pairs s) (.own vp 172 2 r.pairs.length (pairCs r.pairs))):=by
  rcases hp with ⟨rfl,e⟩|⟨rfl,e⟩
  · rw[e]
    exact h.mem.of_eq (updE_id (mem_pairs hc))
  · rw[e]
    exact h.mem.shrink (.pairs s) (mem_pairs hc) (World.ownsRow_nil w 0 172 2) (.inr rfl)
 have e2:updE (memOf A σ) (.pairs s) (.own vp 172 2 r.pairs.length (pairCs r.pairs)) (.call s)=.obj (A.bc s) (callCs A s c) 237:=by rw[updE_other _ _ (by simp),mem_call hc]
 obtain⟨h2,g⟩:=Holds.puts (.call s) (by simp) [i64 r.e,i64 r.value,vp,i64 r.over,i64 r.reason] 5 h1 e2;refine⟨⟨?_,h.ev.grow g,h.sl,h.nw,h.nt,h.nv,h.n8,by simpa [St.setC] using h.nc⟩,g⟩;refine h2.of_eq fun q=>?_
 by_cases hs:q.cl=some s
 · rw[mem_cl _ _ hs,getC_set (lt_of_call hc),if_pos rfl]
   unfold updE;rw[mem_cl A _ hs,hc]
   cases q<;>simp[Role.cl] at hs<;>subst hs<;>simp[clEntry,callCs,Book.resPairs,upF,sets]
 · have e3:q≠.pairs s:=by rintro rfl;exact hs rfl
   have e4:q≠.call s:=by rintro rfl;exact hs rfl
   rw[updE_other _ _ e4,updE_other _ _ e3,mem_setC_not _ hc _ hs];exact mem_butCl (A:=A) (A':=A.resPairs s vp) ⟨rfl,rfl,rfl,rfl,rfl,rfl,rfl,rfl,rfl,rfl,rfl,rfl,rfl,rfl,rfl,rfl,rfl,rfl,rfl,rfl,rfl,fun _ _=>rfl,fun _ _=>rfl,fun k hk=>upF_other _ _ hk⟩ σ hs
theorem Rep.dropCall {A:Book} {σ:St} {w:World} (h:Rep A σ w) (s:Nat):Rep A {σ with calls:=σ.calls.set s none} w:=by
 refine⟨h.mem.none fun q=>?_,h.ev,h.sl,h.nw,h.nt,h.nv,h.n8,by simpa using h.nc⟩
 cases q<;>first|exact .inl rfl|skip
 all_goals
  rename_i k;simp only[memOf,List.getD_eq_getElem?_getD,List.getElem?_set]
  by_cases hk:s=k
  · right;subst hk;rw[if_pos rfl];by_cases hk:s<σ.calls.length<;>simp[hk]
  · left;rw[if_neg hk]
theorem Rep.dropTxn {A:Book} {σ:St} {w:World} (h:Rep A σ w) {s:Nat} (hs:s<8):Rep A {σ with txns:=σ.txns.set s none} (w.setCell ⟨A.be,5+s,none⟩ (.pointer none))∧Grow A.L w A.L (w.setCell ⟨A.be,5+s,none⟩ (.pointer none)):=by
 have g:=h.mem.grow_set (r:=.eng) rfl (5+s) (.pointer none);have h1:=h.mem.put .eng rfl (5+s) (.pointer none);have n8:=h.n8;refine⟨⟨h1.none fun q=>?_,h.ev.grow g,h.sl,h.nw,h.nt,h.nv,by simpa using h.n8,h.nc⟩,g⟩;have ge:∀ k,(σ.txns.set s none).getD k none=if k=s then none else σ.txns.getD k none:=fun k=>getD_set _ _ _ _ _ (by omega)
 have tp:∀ k,A.tp {σ with txns:=σ.txns.set s none} k=if k=s then .pointer none else A.tp σ k:=by
  intro k;unfold Book.tp;simp only[ge];by_cases hk:k=s<;>simp[hk]
 cases q<;>first|exact .inl rfl|skip
 case eng=>
  left;simp only[updE,if_pos,memOf,engCs,tp]
  match s,hs with
  |0,_|1,_|2,_|3,_|4,_|5,_|6,_|7,_=>rfl
 all_goals
  simp only[memOf,updE,ge]
  first
   | (rename_i k; by_cases hk : k = s
      · right;rw[if_pos hk]
      · left;rw[if_neg hk];simp)
   | (rename_i k j; by_cases hk : k = s
      · right;rw[if_pos hk];rfl
      · left;rw[if_neg hk];simp)
end Go.Proofs.YtiimlopcifljeaaGreatDoor.Em
namespace Go.Proofs.YtiimlopcifljeaaGreatDoor.Em
open Go.ChangeShapes Go.WideShapes Go.ChangeAt Go.RowKit En
set_option linter.unusedVariables false
set_option linter.unusedSimpArgs false
/- Pairs of cells. -/
theorem two_get (l:List (Value×Value)) (i:Nat) {p:Value×Value} (h:l[i]? =some p):(two l)[2*i]? =some p.1∧(two l)[2*i+1]? =some p.2:=by
 induction l generalizing i with
 |nil=>simp at h
 |cons a l ih=>
  cases i with
  |zero=>simp at h;subst h;exact⟨rfl,rfl⟩
  |succ i=>
   have:=ih i (by simpa using h);have e1:2*(i+1)=2*i+1+1:=by omega
   simp only[two,List.flatMap_cons,e1] at*;exact⟨by simpa using this.1,by simpa using this.2⟩
theorem two_set1 (l:List (Value×Value)) (i:Nat) (v:Value) {p:Value×Value} (h:l[i]? =some p):(two l).set (2*i+1) v=two (l.set i (p.1,v)):=by
 induction l generalizing i with
 |nil=>simp at h
 |cons a l ih=>
  cases i with
  |zero=>simp at h;subst h;rfl
  |succ i=>
   have:=ih i (by simpa using h);have e1:2*(i+1)+1=2*i+1+1+1:=by omega
   simp only[two,List.flatMap_cons,e1,List.set_cons_succ] at*
   simpa using this
theorem two_set0 (l:List (Value×Value)) (i:Nat) (v:Value) {p:Value×Value} (h:l[i]? =some p):(two l).set (2*i) v=two (l.set i (v,p.2)):=by
 induction l generalizing i with
 |nil=>simp at h
 |cons a l ih=>
  cases i with
  |zero=>simp at h;subst h;rfl
  |succ i=>
   have:=ih i (by simpa using h);have e1:2*(i+1)=2*i+1+1:=by omega
   simp only[two,List.flatMap_cons,e1,List.set_cons_succ] at*
   simpa using this
theorem two_length (l:List (Value×Value)):(two l).length=2*l.length:=by
 induction l with
 |nil=>rfl
 |cons a l ih=>simp only[two,List.flatMap_cons,List.length_append,List.length_cons,List.length_nil] at *;omega
theorem Rep.role {A:Book} {σ σ':St} {w w':World} (h:Rep A σ w) (hm:Holds A.L w' (memOf A σ')) (g:Grow A.L w A.L w') (h0:σ'.tale=σ.tale) (h1:σ'.slots=σ.slots) (h2:σ'.words.length=σ.words.length) (h3:σ'.tags.length=σ.tags.length) (h4:σ'.values.length=σ.values.length) (h5:σ'.txns.length=σ.txns.length) (h6:σ'.calls.length=σ.calls.length):Rep A σ' w':=
 ⟨hm,by rw[h0];exact h.ev.grow g,by rw[h1];exact h.sl,by rw[h2,h1];exact h.nw,by rw[h3,h1];exact h.nt,by rw[h4,h1];exact h.nv,h5.trans h.n8,h6.trans h.nc⟩
theorem get_of_lt {α:Type} (l:List α) (i:Nat) (d:α) (h:i<l.length):l[i]? =some (l.getD i d):=by simp[List.getD_eq_getElem?_getD,h]
theorem Rep.val {A:Book} {σ:St} {w:World} (h:Rep A σ w) {i:Nat} (hi:i<σ.slots):w.cell? ⟨A.bv,2*i,none⟩=some (zi ((σ.values.getD i (0,0)).1:Int))∧w.cell? ⟨A.bv,2*i+1,none⟩=some (zi ((σ.values.getD i (0,0)).2:Int)):=by
 have e:(σ.values.map fun p=>(i64 p.1,i64 p.2))[i]? =some (i64 (σ.values.getD i (0,0)).1,i64 (σ.values.getD i (0,0)).2):=by
  rw[List.getElem?_map,get_of_lt σ.values i (0,0) (by rw[h.nv];exact hi)];rfl
 have:=two_get _ i e;exact⟨h.mem.cell (r:=.values) rfl _ this.1,h.mem.cell (r:=.values) rfl _ this.2⟩
theorem Rep.valF {A:Book} {σ:St} {w:World} (h:Rep A σ w) (i:Nat):w.frozen? ⟨A.bv,i,none⟩=false:=h.mem.frozen (r:=.values) rfl i
theorem mem_values_other (A:Book) (σ:St) (l:List (Nat×Nat)) {q:Role} (hq:q≠.values):memOf A {σ with values:=l} q=memOf A σ q:=by cases q<;>first|rfl|exact absurd rfl hq
theorem Rep.valSet {A:Book} {σ:St} {w:World} (h:Rep A σ w) {i:Nat} (hi:i<σ.slots) (n:Nat):
 Rep A {σ with values:=σ.values.set i ((σ.values.getD i (0,0)).1,n)} (w.setCell ⟨A.bv,2*i+1,none⟩ (zi (n:Int)))∧Grow A.L w A.L (w.setCell ⟨A.bv,2*i+1,none⟩ (zi (n:Int))):=by
 have g:=h.mem.grow_set (r:=.values) rfl (2*i+1) (zi (n:Int));have e:(σ.values.map fun p=>(i64 p.1,i64 p.2))[i]? =some (i64 (σ.values.getD i (0,0)).1,i64 (σ.values.getD i (0,0)).2):=by
  rw[List.getElem?_map,get_of_lt σ.values i (0,0) (by rw[h.nv];exact hi)];rfl
 refine⟨h.role (h.mem.set .values rfl _ _ ?_ fun q hq=>mem_values_other A σ _ hq) g rfl rfl rfl rfl (by simp) rfl rfl,g⟩;show Entry.obj A.bv (two _) 176=_;rw[valueCs,two_set1 _ _ _ e,List.map_set]
theorem Rep.valLay {A:Book} {σ:St} {w:World} (h:Rep A σ w) {i:Nat} (hi:i<σ.slots) (k n:Nat):
 Rep A {σ with values:=σ.values.set i (k,n)} (w.setCells A.bv (2*i) [zi (k:Int),zi (n:Int)])∧Grow A.L w A.L (w.setCells A.bv (2*i) [zi (k:Int),zi (n:Int)]):=by
 have e:(σ.values.map fun p=>(i64 p.1,i64 p.2))[i]? =some (i64 (σ.values.getD i (0,0)).1,i64 (σ.values.getD i (0,0)).2):=by
  rw[List.getElem?_map,get_of_lt σ.values i (0,0) (by rw[h.nv];exact hi)];rfl
 obtain⟨h2,g⟩:=Holds.puts .values (by simp) [zi (k:Int),zi (n:Int)] (2*i) h.mem (m:=memOf A σ) (cs:=valueCs σ) (b:=A.bv) (T:=176) rfl;refine⟨h.role (h2.of_eq fun q=>?_) g rfl rfl rfl rfl (by simp) rfl rfl,g⟩
 by_cases hq:q=.values
 · subst hq
   rw[updE_same];show Entry.obj A.bv (two _) 176=_;have e2:((σ.values.map fun p=>(i64 p.1,i64 p.2)).set i (zi (k:Int),i64 (σ.values.getD i (0,0)).2))[i]? =some (zi (k:Int),i64 (σ.values.getD i (0,0)).2):=by
    rw[List.getElem?_set];simp[h.nv,hi]
   simp only[sets,valueCs];rw[two_set0 _ _ _ e,two_set1 _ _ _ e2,List.map_set,List.set_set]
 · rw[updE_other _ _ hq,mem_values_other A σ _ hq]
/- The pool. -/
theorem Rep.tag {A:Book} {σ:St} {w:World} (h:Rep A σ w) {i:Nat} (hi:i<σ.slots):w.cell? ⟨A.bs,2*i,none⟩=some (zi ((σ.tags.getD i (0,false)).1:Int))∧w.cell? ⟨A.bs,2*i+1,none⟩=some (.bool (σ.tags.getD i (0,false)).2):=by
 have e:(σ.tags.map fun p=>(i64 p.1,Value.bool p.2))[i]? =some (i64 (σ.tags.getD i (0,false)).1,Value.bool (σ.tags.getD i (0,false)).2):=by
  rw[List.getElem?_map,get_of_lt σ.tags i (0,false) (by rw[h.nt];exact hi)];rfl
 have:=two_get _ i e;exact⟨h.mem.cell (r:=.tags) rfl _ this.1,h.mem.cell (r:=.tags) rfl _ this.2⟩
theorem Rep.tagF {A:Book} {σ:St} {w:World} (h:Rep A σ w) (i:Nat):w.frozen? ⟨A.bs,i,none⟩=false:=h.mem.frozen (r:=.tags) rfl i
theorem mem_tags_other (A:Book) (σ:St) (l:List (Nat×Bool)) {q:Role} (hq:q≠.tags):memOf A {σ with tags:=l} q=memOf A σ q:=by cases q<;>first|rfl|exact absurd rfl hq
theorem Rep.takenSet {A:Book} {σ:St} {w:World} (h:Rep A σ w) {i:Nat} (hi:i<σ.slots) (b:Bool):
 Rep A {σ with tags:=σ.tags.set i ((σ.tags.getD i (0,false)).1,b)} (w.setCell ⟨A.bs,2*i+1,none⟩ (.bool b))∧Grow A.L w A.L (w.setCell ⟨A.bs,2*i+1,none⟩ (.bool b)):=by
 have g:=h.mem.grow_set (r:=.tags) rfl (2*i+1) (.bool b);have e:(σ.tags.map fun p=>(i64 p.1,Value.bool p.2))[i]? =some (i64 (σ.tags.getD i (0,false)).1,Value.bool (σ.tags.getD i (0,false)).2):=by
  rw[List.getElem?_map,get_of_lt σ.tags i (0,false) (by rw[h.nt];exact hi)];rfl
 refine⟨h.role (h.mem.set .tags rfl _ _ ?_ fun q hq=>mem_tags_other A σ _ hq) g rfl rfl rfl (by simp) rfl rfl rfl,g⟩;show Entry.obj A.bs (two _) 308=_;rw[tagCs,two_set1 _ _ _ e,List.map_set]
theorem Rep.tagSet {A:Book} {σ:St} {w:World} (h:Rep A σ w) {i:Nat} (hi:i<σ.slots) (n:Nat):
 Rep A {σ with tags:=σ.tags.set i (n,(σ.tags.getD i (0,false)).2)} (w.setCell ⟨A.bs,2*i,none⟩ (zi (n:Int)))∧Grow A.L w A.L (w.setCell ⟨A.bs,2*i,none⟩ (zi (n:Int))):=by
 have g:=h.mem.grow_set (r:=.tags) rfl (2*i) (zi (n:Int));have e:(σ.tags.map fun p=>(i64 p.1,Value.bool p.2))[i]? =some (i64 (σ.tags.getD i (0,false)).1,Value.bool (σ.tags.getD i (0,false)).2):=by
  rw[List.getElem?_map,get_of_lt σ.tags i (0,false) (by rw[h.nt];exact hi)];rfl
 refine⟨h.role (h.mem.set .tags rfl _ _ ?_ fun q hq=>mem_tags_other A σ _ hq) g rfl rfl rfl (by simp) rfl rfl rfl,g⟩;show Entry.obj A.bs (two _) 308=_;rw[tagCs,two_set0 _ _ _ e,List.map_set]
theorem Rep.pool {A:Book} {σ:St} {w:World} (h:Rep A σ w) (i:Nat) {v:Value} (hv:(poolCs A σ)[i]? =some v):w.cell? ⟨A.bp,i,none⟩=some v:=h.mem.cell (r:=.pool) rfl i hv
theorem Rep.poolF {A:Book} {σ:St} {w:World} (h:Rep A σ w) (i:Nat):w.frozen? ⟨A.bp,i,none⟩=false:=h.mem.frozen (r:=.pool) rfl i
def Book.setFree (A:Book) (v:Value):Book:={A with L:=labV A.L v .free,vfree:=v}
theorem Rep.freeOn {A:Book} {σ:St} {w w1:World} (h:Rep A σ w) (l:List Nat) (v':Value)
 (hg:w.grownBy w1 A.vfree.ownBlock) (ho:w1.ownsRow 0 3 1 v' l.length (l.map i64)) (hw:v'.ownBlock=A.vfree.ownBlock∨∀ g,v'.ownBlock=some g→w.heap.size≤g):
 Rep (A.setFree v') {σ with free:=l} (w1.setCell ⟨A.bp,2,none⟩ v')∧Grow A.L w (A.setFree v').L (w1.setCell ⟨A.bp,2,none⟩ v')∧w1.cell? ⟨A.bp,2,none⟩=some A.vfree∧w1.frozen? ⟨A.bp,2,none⟩=false:=by
 obtain⟨h1,g1⟩:=h.mem.grown .free rfl hg ho hw;have e2:updE (memOf A σ) .free (.own v' 3 1 l.length (l.map i64)) .pool=.obj A.bp (poolCs A σ) 221:=rfl;have h2:=h1.put .pool e2 2 v';have g:=g1.trans (h1.grow_set e2 2 v');refine⟨⟨h2.of_eq fun q=>?_,h.ev.grow g,h.sl,h.nw,h.nt,h.nv,h.n8,h.nc⟩,g,h1.cell e2 2 rfl,h1.frozen e2 2⟩
 cases q<;>rfl
theorem Rep.freeOff {A:Book} {σ:St} {w:World} (h:Rep A σ w) (l:List Nat) (v':Value) (ho:w.ownsRow 0 3 1 v' l.length (l.map i64)) (hv:v'.ownBlock=A.vfree.ownBlock):
 Rep {A with vfree:=v'} {σ with free:=l} (w.setCell ⟨A.bp,2,none⟩ v')∧Grow A.L w A.L (w.setCell ⟨A.bp,2,none⟩ v'):=by
 have h1:=h.mem.shrink .free (m:=memOf A σ) rfl ho (.inl hv);have e2:updE (memOf A σ) .free (.own v' 3 1 l.length (l.map i64)) .pool=.obj A.bp (poolCs A σ) 221:=rfl;have h2:=h1.put .pool e2 2 v';have g:=h1.grow_set e2 2 v';refine⟨⟨h2.of_eq fun q=>?_,h.ev.grow g,h.sl,h.nw,h.nt,h.nv,h.n8,h.nc⟩,g⟩
 cases q<;>rfl
theorem Rep.wornSet {A:Book} {σ:St} {w:World} (h:Rep A σ w) (n:Nat):Rep A {σ with worn:=n} (w.setCell ⟨A.bp,3,none⟩ (zi (n:Int)))∧Grow A.L w A.L (w.setCell ⟨A.bp,3,none⟩ (zi (n:Int))):=by
 have g:=h.mem.grow_set (r:=.pool) rfl 3 (zi (n:Int));exact⟨h.role (h.mem.set .pool rfl _ _ rfl fun q hq=>by cases q<;>first|rfl|exact absurd rfl hq) g rfl rfl rfl rfl rfl rfl rfl,g⟩
theorem mem_mp (A:Book) (σ:St) (m:Int) {q:Role} (hq:q≠.pool):memOf {A with mp:=m} σ q=memOf A σ q:=by cases q<;>first|rfl|exact absurd rfl hq
theorem Rep.poolLock {A:Book} {σ:St} {w:World} (h:Rep A σ w) (m:Int):Rep {A with mp:=m} σ (w.setCell ⟨A.bp,5,none⟩ (.int .i32 m))∧Grow A.L w A.L (w.setCell ⟨A.bp,5,none⟩ (.int .i32 m)):=by
 have g:=h.mem.grow_set (r:=.pool) rfl 5 (.int .i32 m);exact⟨⟨h.mem.set .pool rfl _ _ rfl fun q hq=>mem_mp A σ m hq,h.ev.grow g,h.sl,h.nw,h.nt,h.nv,h.n8,h.nc⟩,g⟩
theorem Rep.poolDone {A:Book} {σ:St} {w:World} (h:Rep A σ w):Rep A {σ with listed:=true} (w.setCell ⟨A.bp,4,none⟩ (.int .u32 1))∧Grow A.L w A.L (w.setCell ⟨A.bp,4,none⟩ (.int .u32 1)):=by
 have g:=h.mem.grow_set (r:=.pool) rfl 4 (.int .u32 1);exact⟨h.role (h.mem.set .pool rfl _ _ rfl fun q hq=>by cases q<;>first|rfl|exact absurd rfl hq) g rfl rfl rfl rfl rfl rfl rfl,g⟩
end Go.Proofs.YtiimlopcifljeaaGreatDoor.Em
namespace Go.Proofs.YtiimlopcifljeaaGreatDoor.Em
open Go.ChangeShapes Go.WideShapes Go.ChangeAt Go.RowKit En
set_option linter.unusedVariables false
set_option linter.unusedSimpArgs false
theorem lookup_upd (l:List (Nat×Cel)) (key:Nat) (x:Cel) (k:Nat):(upd l key x).lookup k=if k=key then (l.lookup k).map (fun _=>x) else l.lookup k:=by
 induction l with
 |nil=>simp[upd]
 |cons p l ih=>
  obtain⟨a,y⟩:=p;simp only[upd,List.map_cons] at*
  by_cases h1:a=key
  · subst h1
    simp only[if_pos,List.lookup_cons]
    by_cases h2:k=a
    · subst h2;simp
    · simp only[beq_false_of_ne h2,ih,if_neg h2]
  · simp only[if_neg h1,List.lookup_cons]
    by_cases h2:k=a
    · subst h2;simp[h1]
    · simp only[beq_false_of_ne h2,ih]
theorem mapEs_upd (A:Book) (s:Nat) (t:Txn) (key:Nat) (x:Cel):mapEs A s {t with cells:=upd t.cells key x}=mapEs A s t:=by
 have e:(upd t.cells key x).map (·.1)=t.cells.map (·.1):=by
  unfold upd;rw[List.map_map];refine List.map_congr_left fun p _=>?_
  simp only[Function.comp]
  split
  · rename_i h;exact h.symm
  · rfl
 have e2:∀ (l:List (Nat×Cel)),(l.reverse.zipIdx.map fun p=>(⟨i64 p.1.1,ptr (A.bx s p.1.1),p.2⟩:MapEntry))=((l.map (·.1)).reverse.zipIdx.map fun p=>(⟨i64 p.1,ptr (A.bx s p.1),p.2⟩:MapEntry)):=by
  intro l;rw[←List.map_reverse,List.zipIdx_map];simp[List.map_map,Function.comp_def]
 unfold mapEs;rw[e2,e2];simp only;rw[e]
theorem mem_cell {A:Book} {σ:St} {s:Nat} {t:Txn} (ht:σ.txns.getD s none=some t) {key:Nat} {x:Cel} (hx:t.cell key=some x):memOf A σ (.cell s key)=.obj (A.bx s key) (celCs x) 324:=by
 simp only[memOf,ht,Option.bind_some,hx]
theorem Rep.cel {A:Book} {σ:St} {w:World} (h:Rep A σ w) {s:Nat} {t:Txn} (ht:σ.txns.getD s none=some t) {key:Nat} {x:Cel} (hx:t.cell key=some x):
 w.cell? ⟨A.bx s key,0,none⟩=some (zu (x.own:Int))∧w.cell? ⟨A.bx s key,1,none⟩=some (zu (x.old:Int))∧w.cell? ⟨A.bx s key,2,none⟩=some (.bool x.there):=
 ⟨h.mem.cell (mem_cell ht hx) 0 rfl,h.mem.cell (mem_cell ht hx) 1 rfl,h.mem.cell (mem_cell ht hx) 2 rfl⟩
theorem Rep.celF {A:Book} {σ:St} {w:World} (h:Rep A σ w) {s:Nat} {t:Txn} (ht:σ.txns.getD s none=some t) {key:Nat} {x:Cel} (hx:t.cell key=some x) (i:Nat):w.frozen? ⟨A.bx s key,i,none⟩=false:=h.mem.frozen (mem_cell ht hx) i
theorem Rep.celSet {A:Book} {σ:St} {w:World} (h:Rep A σ w) {s:Nat} {t:Txn} (ht:σ.txns.getD s none=some t) {key:Nat} {x:Cel} (hx:t.cell key=some x) (x':Cel) (i:Nat) (v:Value) (hcs:celCs x'=(celCs x).set i v):
 Rep A (σ.setT s {t with cells:=upd t.cells key x'}) (w.setCell ⟨A.bx s key,i,none⟩ v)∧Grow A.L w A.L (w.setCell ⟨A.bx s key,i,none⟩ v):=by
 have g:=h.mem.grow_set (mem_cell ht hx) i v;refine⟨h.role (h.mem.set (.cell s key) (mem_cell ht hx) i v ?_ ?_) g rfl rfl rfl rfl rfl (by simp[St.setT]) rfl,g⟩
 · rw[mem_tx A _ (s:=s) rfl,getT_set (lt_of_txn ht),if_pos rfl]
   have:(upd t.cells key x').lookup key=some x':=by rw[lookup_upd,if_pos rfl];unfold Txn.cell at hx;rw[hx];rfl
   simp only[txEntry,Option.bind_some,Txn.cell,this,hcs]
 · intro q hq
   by_cases hs:q.tx=some s
   · rw[mem_tx A _ hs,mem_tx A _ hs,getT_set (lt_of_txn ht),if_pos rfl,ht]
     cases q<;>simp[Role.tx] at hs<;>subst hs<;>first|rfl|skip
     · simp only[txEntry,mapEs_upd];simp[upd]
     · rename_i k
       have hk:k≠key:=by rintro rfl;exact hq rfl
       simp only[txEntry,Option.bind_some,Txn.cell,lookup_upd,if_neg hk]
   · exact mem_setT_not A ht _ hs
theorem mem_book_txn {A A':Book} {s:Nat} (h:A.ButTx A' s) (h1:A'.bm=A.bm) (h2:A'.bx=A.bx) (h3:A'.vkeys=A.vkeys) (h4:A'.vreads=A.vreads) (h5:A'.vbonds=A.vbonds) (σ:St) {q:Role} (hq:q≠.txn s):memOf A' σ q=memOf A σ q:=by
 by_cases hs:q.tx=some s
 · rw[mem_tx _ _ hs,mem_tx _ _ hs]
   cases q<;>simp[Role.tx] at hs<;>subst hs<;>first|exact absurd rfl hq|(simp only[txEntry,h1,h2,h3,h4,h5,mapEs];done)
 · exact mem_butTx h σ hs
theorem Rep.txnLock {A:Book} {σ:St} {w:World} (h:Rep A σ w) {s:Nat} {t:Txn} (ht:σ.txns.getD s none=some t) (m:Int):Rep {A with mt:=fun k=>if k=s then m else A.mt k} σ (w.setCell ⟨A.bt s,11,none⟩ (.int .i32 m))∧Grow A.L w A.L (w.setCell ⟨A.bt s,11,none⟩ (.int .i32 m)):=by
 have g:=h.mem.grow_set (mem_txn ht) 11 (.int .i32 m);refine⟨⟨h.mem.set (.txn s) (mem_txn ht) _ _ ?_ fun q hq=>?_,h.ev.grow g,h.sl,h.nw,h.nt,h.nv,h.n8,h.nc⟩,g⟩
 · rw[mem_txn ht];simp[txnCs,onceCs]
 · exact mem_book_txn (A:=A) (A':={A with mt:=fun k=>if k=s then m else A.mt k}) (s:=s) ⟨rfl,rfl,rfl,rfl,rfl,rfl,rfl,rfl,rfl,rfl,rfl,rfl,rfl,rfl,rfl,rfl,rfl,fun _ _=>rfl,fun _ _=>rfl,fun _ _=>rfl,fun _ _=>rfl,fun _ _=>rfl,fun k hk=>if_neg hk,fun _ _=>rfl⟩ rfl rfl rfl rfl rfl σ hq
theorem Rep.txnOver {A:Book} {σ:St} {w:World} (h:Rep A σ w) {s:Nat} {t:Txn} (ht:σ.txns.getD s none=some t) (b:Bool):Rep {A with vover:=fun k=>if k=s then b else A.vover k} σ (w.setCell ⟨A.bt s,13,none⟩ (.bool b))∧Grow A.L w A.L (w.setCell ⟨A.bt s,13,none⟩ (.bool b)):=by
 have g:=h.mem.grow_set (mem_txn ht) 13 (.bool b);refine⟨⟨h.mem.set (.txn s) (mem_txn ht) _ _ ?_ fun q hq=>?_,h.ev.grow g,h.sl,h.nw,h.nt,h.nv,h.n8,h.nc⟩,g⟩
 · rw[mem_txn ht];simp[txnCs,onceCs]
 · exact mem_book_txn (A:=A) (A':={A with vover:=fun k=>if k=s then b else A.vover k}) (s:=s) ⟨rfl,rfl,rfl,rfl,rfl,rfl,rfl,rfl,rfl,rfl,rfl,rfl,rfl,rfl,rfl,rfl,rfl,fun _ _=>rfl,fun _ _=>rfl,fun _ _=>rfl,fun _ _=>rfl,fun _ _=>rfl,fun _ _=>rfl,fun k hk=>if_neg hk⟩ rfl rfl rfl rfl rfl σ hq
theorem Rep.txnDone {A:Book} {σ:St} {w:World} (h:Rep A σ w) {s:Nat} {t:Txn} (ht:σ.txns.getD s none=some t):Rep A (σ.setT s {t with over:=true}) (w.setCell ⟨A.bt s,10,none⟩ (.int .u32 1))∧Grow A.L w A.L (w.setCell ⟨A.bt s,10,none⟩ (.int .u32 1)):=
 h.setTxn ht {t with over:=true} 10 (.int .u32 1) (by simp[txnCs,onceCs]) rfl rfl rfl rfl
def Book.newCall (A:Book) (s b:Nat) (v:Value):Book:={A with L:=lab1 A.L b (.call s),bc:=fun k=>if k=s then b else A.bc k,vnext:=upF A.vnext s v,vpairs:=upF A.vpairs s (.slice none 0 0)}
theorem grow_newLab {L:Lab} {w w1:World} (hB:Below w.heap.size w w1) {b:Nat} (hb:w.heap.size≤b) (r:Role):Grow L w (lab1 L b r) w1:=(Grow.below hB).lab1 hb r
theorem Rep.newCall {A:Book} {σ:St} {w w1:World} (h:Rep A σ w) (hB:Below w.heap.size w w1) {s b:Nat} (hs:s<8) (hb:w.heap.size≤b) (v:Value) (c:Cal) (hc:c.r.pairs=[]) (he:w1.heap[b]? =some (.cells (callCs (A.newCall s b v) s c).toArray 237)) (hn:σ.calls.getD s none=none):
 Rep (A.newCall s b v) (σ.setC s c) w1∧Grow A.L w (A.newCall s b v).L w1:=by
 have hlt:b<w1.heap.size:=lt_of he;have g:Grow A.L w (lab1 A.L b (.call s)) w1:=grow_newLab hB hb _;have h1:=(h.mem.below hB).adopt (.call s) (h.mem.fresh b hb) (.obj b (callCs (A.newCall s b v) s c) 237) ⟨lab1_same _ _ _,he⟩ hlt;refine⟨⟨?_,h.ev.grow g,h.sl,h.nw,h.nt,h.nv,h.n8,by simpa [St.setC] using h.nc⟩,g⟩;have h2:Holds (lab1 A.L b (.call s)) w1 (updE (updE (memOf A σ) (.call s) (.obj b (callCs (A.newCall s b v) s c) 237)) (.pairs s) (.own (.slice none 0 0) 172 2 0 [])):=by
  refine⟨fun q=>?_,h1.fresh⟩
  by_cases hq:q=.pairs s
  · subst hq;rw[updE_same];exact⟨World.ownsRow_nil w1 0 172 2,fun g hg=>by cases hg⟩
  · rw[updE_other _ _ hq];exact h1.all q
 refine h2.of_eq fun q=>?_
 by_cases hs2:q.cl=some s
 · rw[mem_cl _ _ hs2,getC_set (by rw[h.nc];exact hs),if_pos rfl]
   cases q<;>simp[Role.cl] at hs2<;>subst hs2<;>simp[clEntry,updE,Book.newCall,upF,hc,pairCs,two]
 · have e3:q≠.pairs s:=by rintro rfl;exact hs2 rfl
   have e4:q≠.call s:=by rintro rfl;exact hs2 rfl
   rw[updE_other _ _ e3,updE_other _ _ e4];have:=mem_butCl (A:=A) (A':=A.newCall s b v) ⟨rfl,rfl,rfl,rfl,rfl,rfl,rfl,rfl,rfl,rfl,rfl,rfl,rfl,rfl,rfl,rfl,rfl,rfl,rfl,rfl,rfl,fun k hk=>if_neg hk,fun k hk=>upF_other _ _ hk,fun k hk=>upF_other _ _ hk⟩ (σ.setC s c) hs2;rw[this]
   cases hq:q.cl with
   |none=>cases q<;>first|rfl|(simp[Role.cl] at hq;done)
   |some k=>
    have hk:k≠s:=by rintro rfl;exact hs2 hq
    rw[mem_cl A _ hq,mem_cl A _ hq,getC_set (by rw[h.nc];exact hs),if_neg hk]
def Book.newTxn (A:Book) (s b m:Nat):Book:=
 {A with L:=lab1 (lab1 A.L b (.txn s)) m (.map s),bt:=fun k=>if k=s then b else A.bt k,bm:=fun k=>if k=s then m else A.bm k,vkeys:=upF A.vkeys s (.slice none 0 0),vreads:=upF A.vreads s (.slice none 0 0),vbonds:=upF A.vbonds s (.slice none 0 0),mt:=fun k=>if k=s then 0 else A.mt k,vover:=fun k=>if k=s then false else A.vover k}
def Book.newCel (A:Book) (s key b:Nat):Book:={A with L:=lab1 A.L b (.cell s key),bx:=fun k j=>if k=s∧j=key then b else A.bx k j}
theorem mapEs_cons (A:Book) (s:Nat) (t:Txn) (key b:Nat) (x:Cel) (hx:∀ p∈t.cells,p.1≠key):mapEs (A.newCel s key b) s {t with cells:=(key,x)::t.cells}=mapEs A s t++[⟨i64 key,ptr b,t.cells.length⟩]:=by
 unfold mapEs;rw[List.reverse_cons,List.zipIdx_append,List.map_append]
 congr 1
 · refine List.map_congr_left fun p hp=>?_
   have h1:p.1∈t.cells:=by
    have:=List.fst_mem_of_mem_zipIdx hp;exact List.mem_reverse.1 this
   simp[Book.newCel,hx _ h1]
 · simp[Book.newCel]
end Go.Proofs.YtiimlopcifljeaaGreatDoor.Em
namespace Go.Proofs.YtiimlopcifljeaaGreatDoor.Em
open Go.ChangeShapes Go.WideShapes Go.ChangeAt Go.RowKit En
set_option linter.unusedVariables false
set_option linter.unusedSimpArgs false
theorem lookup_none {l:List (Nat×Cel)} {key:Nat} (h:l.lookup key=none):∀ p∈l,p.1≠key:=by
 induction l with
 |nil=>intro p hp;simp at hp
 |cons a l ih=>
  obtain⟨k,x⟩:=a;rw[List.lookup_cons] at h;intro p hp
  by_cases hk:key=k
  · subst hk;simp at h
  · rw[beq_false_of_ne hk] at h
    rcases List.mem_cons.1 hp with rfl|hp
    · exact fun e=>hk e.symm
    · exact ih h p hp
theorem mem_map {A:Book} {σ:St} {s:Nat} {t:Txn} (ht:σ.txns.getD s none=some t):memOf A σ (.map s)=.map (A.bm s) (mapEs A s t) t.cells.length:=by simp only[memOf,ht]
theorem Rep.map {A:Book} {σ:St} {w:World} (h:Rep A σ w) {s:Nat} {t:Txn} (ht:σ.txns.getD s none=some t):w.heap[A.bm s]? =some (.map (mapEs A s t).toArray t.cells.length):=by
 have k:=h.mem.all (.map s);rw[mem_map ht] at k;exact k.2
theorem Rep.newCel {A:Book} {σ:St} {w w1 w2:World} (h:Rep A σ w) (hB:Below w.heap.size w w1) {s b:Nat} {t:Txn} (ht:σ.txns.getD s none=some t) {key:Nat} (hx:t.cell key=none) (hb:w.heap.size≤b) (x:Cel)
 (he:w1.heap[b]? =some (.cells (celCs x).toArray 324)) (hg:w1.grownBy w2 (some (A.bm s))) (hm:w2.heap[A.bm s]? =some (.map (mapEs A s t++[(⟨i64 key,ptr b,t.cells.length⟩:MapEntry)]).toArray (t.cells.length+1))) (hz:w2.heap.size=w1.heap.size):
 Rep (A.newCel s key b) (σ.setT s {t with cells:=(key,x)::t.cells}) w2∧Grow A.L w (A.newCel s key b).L w2:=by
 have hx':=lookup_none hx;have hlt:b<w1.heap.size:=lt_of he;have hmap:=h.map ht;have hlm:=(h.mem.all (.map s))
 rw[mem_map ht] at hlm;have hfb:=h.mem.fresh b hb;have hne:b≠A.bm s:=by rintro rfl;rw[hlm.1] at hfb;cases hfb
 have k1:=(h.mem.below hB).adopt (.cell s key) hfb (.obj b (celCs x) 324) ⟨lab1_same _ _ _,he⟩ hlt;have g1:Grow A.L w (lab1 A.L b (.cell s key)) w1:=grow_newLab hB hb _;have hml:lab1 A.L b (.cell s key) (A.bm s)=some (.map s):=(lab1_other (Ne.symm hne)).trans hlm.1;have k2:Holds (lab1 A.L b (.cell s key)) w2 (updE (updE (memOf A σ) (.cell s key) (.obj b (celCs x) 324)) (.map s) (.map (A.bm s) (mapEs A s t++[(⟨i64 key,ptr b,t.cells.length⟩:MapEntry)]) (t.cells.length+1))):=by
  refine k1.upd (.map s) ?_ (fun q hq=>updE_other _ _ hq) (fun c q hc hl hq=>hg.block c hc ?_) (fun _ _=>rfl) (fun c hc=>k1.fresh c (by omega))
  · rw[updE_same];exact⟨hml,hm⟩
  · intro e
    obtain rfl:c=A.bm s:=by simpa using e
    rw[hml] at hl;exact hq (Option.some.inj hl).symm
 have g2:Grow (lab1 A.L b (.cell s key)) w1 (lab1 A.L b (.cell s key)) w2:=by
  refine Grow.grown hg fun g hg'=>?_
  obtain rfl:A.bm s=g:=by simpa using hg'
  rw[hml];simp
 have g:=g1.trans g2;refine⟨⟨k2.of_eq fun q=>?_,h.ev.grow g,h.sl,h.nw,h.nt,h.nv,by simpa [St.setT] using h.n8,h.nc⟩,g⟩;have gt:∀ k,(σ.setT s {t with cells:=(key,x)::t.cells}).txns.getD k none=if k=s then some {t with cells:=(key,x)::t.cells} else σ.txns.getD k none:=fun k=>getT_set (lt_of_txn ht) _ k
 have hb1:∀ k,k≠s→∀ j,(A.newCel s key b).bx k j=A.bx k j:=fun k hk j=>if_neg (fun e=>hk e.1)
 by_cases hs:q.tx=some s
 · rw[mem_tx _ _ hs,gt,if_pos rfl]
   unfold updE;rw[mem_tx A _ hs,ht]
   cases q<;>simp[Role.tx] at hs<;>(have hs:=hs.symm;subst hs)
   · simp[txEntry,txnCs,Book.newCel]
   · simp only[txEntry,if_pos,mapEs_cons _ _ _ _ _ _ hx'];rfl
   · rename_i j
     by_cases hj:j=key
     · subst hj;simp[txEntry,Txn.cell,Book.newCel]
     · have e1:(Role.cell s j=Role.map s)=False:=by simp
       have e2:(Role.cell s j=Role.cell s key)=False:=by simp[hj]
       have e3:((key,x)::t.cells).lookup j=t.cells.lookup j:=by rw[List.lookup_cons,beq_false_of_ne hj]
       simp only[txEntry,Option.bind_some,Txn.cell,e3,e1,e2,if_false,Book.newCel];simp[hj]
   · simp[txEntry,Book.newCel]
   · simp[txEntry,Book.newCel]
   · simp[txEntry,Book.newCel]
 · have e3:q≠.map s:=by rintro rfl;exact hs rfl
   have e4:q≠.cell s key:=by rintro rfl;exact hs rfl
   rw[updE_other _ _ e3,updE_other _ _ e4,mem_setT_not _ ht _ hs];exact mem_butTx (A:=A) (A':=A.newCel s key b) ⟨rfl,rfl,rfl,rfl,rfl,rfl,rfl,rfl,rfl,rfl,rfl,rfl,rfl,rfl,rfl,rfl,rfl,fun _ _=>rfl,fun k hk=>funext fun j=>hb1 k hk j,fun _ _=>rfl,fun _ _=>rfl,fun _ _=>rfl,fun _ _=>rfl,fun _ _=>rfl⟩ σ hs
end Go.Proofs.YtiimlopcifljeaaGreatDoor.Em
