import Derived.Test.YtbefcdjcefmicaaGreatKq0
import Derived.Test.YtbefcdjcefmicaaGreatProg
import Derived.WalkKit
import Derived.ProofKit
import Derived.Laws.AppendOwn
import Derived.Laws.NewBlocks
import Derived.Laws.CopyOwn
import Derived.Laws.OwnMore
import Derived.Deep.Quiet
namespace Go.Proofs.YtbefcdjcefmicaaGreat.Em
open Go.ChangeShapes Go.WideShapes Go.ChangeAt Go.RowKit
set_option linter.unusedVariables false
set_option linter.unusedSimpArgs false
set_option maxRecDepth 100000
set_option maxHeartbeats 1600000
inductive Role where
 |eng|arena|words|pool|tags|free|values|tale|cut
 |txn (s:Nat)|map (s:Nat)|cell (s key:Nat)|keys (s:Nat)|reads (s:Nat)|bonds (s:Nat)|call (s:Nat)|pairs (s:Nat)|tmp
 deriving DecidableEq
abbrev Lab:=Nat→Option Role
def lab1 (L:Lab) (b:Nat) (r:Role):Lab:=fun k=>if k=b then some r else L k
theorem lab1_same (L:Lab) (b:Nat) (r:Role):lab1 L b r b=some r:=if_pos rfl
theorem lab1_other {L:Lab} {b k:Nat} {r:Role} (h:k≠b):lab1 L b r k=L k:=if_neg h
structure Grow (L:Lab) (w:World) (L':Lab) (w':World):Prop where
 os:w'.os=w.os
 tape:w'.tape=w.tape
 output:w'.output=w.output
 size:w.heap.size≤w'.heap.size
 block:∀ b,b<w.heap.size→L b=none→w'.heap[b]? =w.heap[b]?
 lab:∀ b,b<w.heap.size→L' b=L b
 keep:∀ b,b<w.heap.size→L b=some .tmp→w'.heap[b]? =w.heap[b]?
theorem Grow.refl (L:Lab) (w:World):Grow L w L w:=⟨rfl,rfl,rfl,Nat.le_refl _,fun _ _ _=>rfl,fun _ _=>rfl,fun _ _ _=>rfl⟩
theorem Grow.trans {L L1 L2:Lab} {w w1 w2:World} (h:Grow L w L1 w1) (k:Grow L1 w1 L2 w2):Grow L w L2 w2:=
 ⟨k.os.trans h.os, k.tape.trans h.tape, k.output.trans h.output, Nat.le_trans h.size k.size,
   fun b hb hl=>(k.block b (Nat.lt_of_lt_of_le hb h.size) (by rw[h.lab b hb];exact hl)).trans (h.block b hb hl),
   fun b hb=>(k.lab b (Nat.lt_of_lt_of_le hb h.size)).trans (h.lab b hb),
   fun b hb hl=>(k.keep b (Nat.lt_of_lt_of_le hb h.size) (by rw[h.lab b hb];exact hl)).trans (h.keep b hb hl)⟩
theorem Grow.alloc (L:Lab) (w:World) (o:Obj):Grow L w L (w.alloc o):=⟨rfl,rfl,rfl,by simp,fun b hb _=>Below.heap_alloc w o b hb,fun _ _=>rfl,fun b hb _=>Below.heap_alloc w o b hb⟩
theorem Grow.drew (L:Lab) (w:World):Grow L w L w.drew:=⟨rfl,rfl,rfl,Nat.le_refl _,fun _ _ _=>rfl,fun _ _=>rfl,fun _ _ _=>rfl⟩
theorem Grow.drewN (L:Lab) (w:World) (n:Nat):Grow L w L (w.drewN n):=⟨rfl,rfl,rfl,Nat.le_refl _,fun _ _ _=>rfl,fun _ _=>rfl,fun _ _ _=>rfl⟩
theorem Grow.setCell {L:Lab} {w:World} {a:Addr} (h:w.heap.size≤a.block∨(L a.block≠none∧L a.block≠some .tmp)) (v:Value):Grow L w L (w.setCell a v):=
 ⟨rfl,rfl,rfl,by simp[World.setCell],fun b hb hl=>Below.heap_setCell _ _ _ _ (by rintro rfl;rcases h with h|h;exact absurd hb (by omega);exact h.1 hl),fun _ _=>rfl,fun b hb hl=>Below.heap_setCell _ _ _ _ (by rintro rfl;rcases h with h|h;exact absurd hb (by omega);exact h.2 hl)⟩
theorem Grow.lab1 {L L':Lab} {w w':World} (h:Grow L w L' w') {b:Nat} (hb:w.heap.size≤b) (r:Role):Grow L w (lab1 L' b r) w':=
 ⟨h.os,h.tape,h.output,h.size,h.block,fun k hk=>(lab1_other (by omega)).trans (h.lab k hk),h.keep⟩
theorem Grow.below {L:Lab} {w w':World} (h:Below w.heap.size w w'):Grow L w L w':=⟨h.os,h.tape,h.output,h.size,fun b hb _=>h.block b hb,fun _ _=>rfl,fun b hb _=>h.block b hb⟩
theorem Grow.grown {L:Lab} {w w':World} {row:Option Nat} (h:w.grownBy w' row) (hr:∀ g,row=some g→L g≠none∧L g≠some .tmp):Grow L w L w':=
 ⟨h.os,h.tape,h.output,h.size,fun b hb hl=>h.block b hb (fun e=>(hr b e.symm).1 hl),fun _ _=>rfl,fun b hb hl=>h.block b hb (fun e=>(hr b e.symm).2 hl)⟩
def Fix (L:Lab) (w:World) (b:Nat) (o:Obj):Prop:=L b=none∧w.heap[b]? =some o
theorem lt_of {w:World} {g:Nat} {o:Obj} (h:w.heap[g]? =some o):g<w.heap.size:=(Array.getElem?_eq_some_iff.1 h).1
theorem Fix.grow {L L':Lab} {w w':World} {b:Nat} {o:Obj} (h:Fix L w b o) (g:Grow L w L' w'):Fix L' w' b o:=
 ⟨(g.lab b (lt_of h.2)).trans h.1,(g.block b (lt_of h.2) h.1).trans h.2⟩
theorem Fix.alloc {L:Lab} {w:World} {o:Obj} (h:L w.heap.size=none):Fix L (w.alloc o) w.heap.size o:=⟨h,heap_alloc_new w o⟩
def Box (L:Lab) (w:World) (b:Nat) (v:Value):Prop:=∃ T,Fix L w b (.cells #[v] T)
theorem Box.grow {L L':Lab} {w w':World} {b:Nat} {v:Value} (h:Box L w b v) (g:Grow L w L' w'):Box L' w' b v:=let ⟨T,h⟩:=h;⟨T,h.grow g⟩
theorem Box.cell {L:Lab} {w:World} {b:Nat} {v:Value} (h:Box L w b v):w.cell? ⟨b,0,none⟩=some v:=by
 obtain⟨T,h1,h2⟩:=h;rw[cell_of_row w b 0 _ _ _ h2];rfl
inductive Entry where
 |none
 |obj (b:Nat) (cs:List Value) (T:TypeId)
 |own (v:Value) (e:TypeId) (size n:Nat) (xs:List Value)
 |map (b:Nat) (es:List MapEntry) (clock:Nat)
def Entry.Holds (L:Lab) (w:World) (r:Role):Entry→Prop
 |.none=>True
 |.obj b cs T=>L b=some r∧w.heap[b]? =some (.cells cs.toArray T)
 |.own v e size n xs=>w.ownsRow 0 e size v n xs∧∀ g,v.ownBlock=some g→L g=some r
 |.map b es clock=>L b=some r∧w.heap[b]? =some (.map es.toArray clock)
theorem own_same {w w':World} {base:Nat} {e:TypeId} {size:Nat} {v:Value} {n:Nat} {xs:List Value} (h:w.ownsRow base e size v n xs) (hs:∀ g,v.ownBlock=some g→w'.heap[g]? =w.heap[g]?):w'.ownsRow base e size v n xs:=by
 refine⟨h.1,?_⟩
 rcases h.2 with h0|⟨g,cap,cur,rfl,h2,h3,h4⟩
 · exact .inl h0
 · exact .inr ⟨g,cap,cur,rfl,h2,by rw[hs g rfl];exact h3,h4⟩
theorem Entry.Holds.frame {L L':Lab} {w w':World} {r:Role} {e:Entry} (h:e.Holds L w r) (hs:∀ b,b<w.heap.size→L b=some r→w'.heap[b]? =w.heap[b]?) (hl:∀ b,b<w.heap.size→L' b=L b):e.Holds L' w' r:=by
 cases e with
 |none=>trivial
 |obj b cs T=>exact⟨(hl b (lt_of h.2)).trans h.1,(hs b (lt_of h.2) h.1).trans h.2⟩
 |map b es c=>exact⟨(hl b (lt_of h.2)).trans h.1,(hs b (lt_of h.2) h.1).trans h.2⟩
 |own v e size n xs=>
  exact⟨own_same h.1 fun g hg=>hs g (h.1.lt g hg).2 (h.2 g hg),fun g hg=>(hl g (h.1.lt g hg).2).trans (h.2 g hg)⟩
structure Holds (L:Lab) (w:World) (m:Role→Entry):Prop where
 all:∀ r,(m r).Holds L w r
 fresh:∀ b,w.heap.size≤b→L b=none
theorem Holds.grow {L L':Lab} {w w':World} {m:Role→Entry} (h:Holds L w m) (hs:∀ b r,b<w.heap.size→L b=some r→w'.heap[b]? =w.heap[b]?) (hl:∀ b,b<w.heap.size→L' b=L b) (hf:∀ b,w'.heap.size≤b→L' b=none):Holds L' w' m:=
 ⟨fun r=>(h.all r).frame (fun b hb hr=>hs b r hb hr) hl,hf⟩
theorem Holds.below {L:Lab} {w w':World} {m:Role→Entry} (h:Holds L w m) (hb:Below w.heap.size w w'):Holds L w' m:=
 h.grow (fun b r hl _=>hb.block b hl) (fun _ _=>rfl) (fun b hl=>h.fresh b (Nat.le_trans hb.size hl))
theorem Holds.upd {L L':Lab} {w w':World} {m m':Role→Entry} (h:Holds L w m) (r:Role) (hr:(m' r).Holds L' w' r) (hm:∀ q,q≠r→m' q=m q)
 (hs:∀ b q,b<w.heap.size→L b=some q→q≠r→w'.heap[b]? =w.heap[b]?) (hl:∀ b,b<w.heap.size→L' b=L b) (hf:∀ b,w'.heap.size≤b→L' b=none):Holds L' w' m':=by
 refine⟨fun q=>?_,hf⟩
 by_cases hq:q=r
 · subst hq;exact hr
 · rw[hm q hq]
   exact (h.all q).frame (fun b hb he=>hs b q hb he hq) hl
theorem Holds.set {L:Lab} {w:World} {m m':Role→Entry} (h:Holds L w m) (r:Role) {b:Nat} {cs:List Value} {T:TypeId} (he:m r=.obj b cs T) (i:Nat) (v:Value) (he':m' r=.obj b (cs.set i v) T) (hm:∀ q,q≠r→m' q=m q):
 Holds L (w.setCell ⟨b,i,none⟩ v) m':=by
 have k:=h.all r;rw[he] at k;refine h.upd r ?_ hm (fun c q hc hl hq=>Below.heap_setCell _ _ _ _ ?_) (fun _ _=>rfl) (fun c hc=>h.fresh c (by simpa [World.setCell] using hc))
 · rw[he']
   refine⟨k.1,?_⟩;have:=k.2;simp only[World.setCell,Array.getElem?_modify,this];simp
 · rintro rfl
   rw[k.1] at hl;exact hq (Option.some.inj hl).symm
theorem Holds.cell {L:Lab} {w:World} {m:Role→Entry} (h:Holds L w m) {r:Role} {b:Nat} {cs:List Value} {T:TypeId} (he:m r=.obj b cs T) (i:Nat) {v:Value} (hv:cs[i]? =some v):w.cell? ⟨b,i,none⟩=some v:=by
 have k:=h.all r;rw[he] at k;rw[cell_of_row w b i _ _ _ k.2]
 simpa using hv
theorem Holds.frozen {L:Lab} {w:World} {m:Role→Entry} (h:Holds L w m) {r:Role} {b:Nat} {cs:List Value} {T:TypeId} (he:m r=.obj b cs T) (i:Nat):w.frozen? ⟨b,i,none⟩=false:=by
 have k:=h.all r;rw[he] at k;simp[World.frozen?,k.2]
theorem Holds.lab {L:Lab} {w:World} {m:Role→Entry} (h:Holds L w m) {r:Role} {b:Nat} {cs:List Value} {T:TypeId} (he:m r=.obj b cs T):L b=some r:=by
 have k:=h.all r;rw[he] at k;exact k.1
theorem Holds.grow_set {L:Lab} {w:World} {m:Role→Entry} (h:Holds L w m) {r:Role} {b:Nat} {cs:List Value} {T:TypeId} (he:m r=.obj b cs T) (i:Nat) (v:Value) (hr:r≠.tmp:=by simp):Grow L w L (w.setCell ⟨b,i,none⟩ v):=
 Grow.setCell (.inr (by show L b≠none∧L b≠some .tmp;rw[h.lab he];simpa using hr)) v
end Go.Proofs.YtbefcdjcefmicaaGreat.Em
namespace Go.Proofs.YtbefcdjcefmicaaGreat.Em
open Go.ChangeShapes Go.WideShapes Go.ChangeAt Go.RowKit
set_option linter.unusedVariables false
def updE (m:Role→Entry) (r:Role) (e:Entry):Role→Entry:=fun q=>if q=r then e else m q
theorem updE_same (m:Role→Entry) (r:Role) (e:Entry):updE m r e r=e:=if_pos rfl
theorem updE_other (m:Role→Entry) {r q:Role} (e:Entry) (h:q≠r):updE m r e q=m q:=if_neg h
theorem Holds.put {L:Lab} {w:World} {m:Role→Entry} (h:Holds L w m) (r:Role) {b:Nat} {cs:List Value} {T:TypeId} (he:m r=.obj b cs T) (i:Nat) (v:Value):
 Holds L (w.setCell ⟨b,i,none⟩ v) (updE m r (.obj b (cs.set i v) T)):=h.set r he i v (updE_same _ _ _) fun q hq=>updE_other m _ hq
theorem Holds.setNone {L:Lab} {w:World} {m:Role→Entry} (h:Holds L w m) {a:Addr} (ha:L a.block=none) (v:Value):Holds L (w.setCell a v) m:=
 h.grow (fun b r hb hl=>Below.heap_setCell _ _ _ _ (by rintro rfl;rw[ha] at hl;cases hl)) (fun _ _=>rfl) (fun b hb=>h.fresh b (by simpa [World.setCell] using hb))
theorem Holds.adopt {L:Lab} {w:World} {m:Role→Entry} (h:Holds L w m) (r:Role) {b:Nat} (hb:L b=none) (e:Entry) (he:e.Holds (lab1 L b r) w r) (hlt:b<w.heap.size):Holds (lab1 L b r) w (updE m r e):=by
 refine⟨fun q=>?_,fun c hc=>?_⟩
 · by_cases hq:q=r
   · subst hq;rw[updE_same];exact he
   · rw[updE_other m _ hq]
     have k:=h.all q
     cases hm:m q with
     |none=>trivial
     |obj c cs T=>rw[hm] at k;exact⟨by rw[lab1_other (by rintro rfl;have k1:=k.1;rw[hb] at k1;cases k1)];exact k.1,k.2⟩
     |map c cs T=>rw[hm] at k;exact⟨by rw[lab1_other (by rintro rfl;have k1:=k.1;rw[hb] at k1;cases k1)];exact k.1,k.2⟩
     |own v e size n xs=>
      rw[hm] at k;refine⟨k.1,fun g hg=>?_⟩;have:=k.2 g hg;rw[lab1_other (by rintro rfl;rw[hb] at this;cases this)];exact this
 · rw[lab1_other (by omega)]
   exact h.fresh c hc
def labV (L:Lab) (v:Value) (r:Role):Lab:=fun k=>if v.ownBlock=some k then some r else L k
theorem Holds.grown {L:Lab} {w w':World} {m:Role→Entry} (h:Holds L w m) (r:Role) {v v':Value} {e:TypeId} {size n n':Nat} {xs xs':List Value} (he:m r=.own v e size n xs)
 (hg:w.grownBy w' v.ownBlock) (ho:w'.ownsRow 0 e size v' n' xs') (hw:v'.ownBlock=v.ownBlock∨∀ g,v'.ownBlock=some g→w.heap.size≤g) (hrt:r≠.tmp:=by simp):
 Holds (labV L v' r) w' (updE m r (.own v' e size n' xs'))∧Grow L w (labV L v' r) w':=by
 have k:=h.all r;rw[he] at k;have hlab:∀ b,b<w.heap.size→labV L v' r b=L b:=by
  intro b hb;unfold labV
  split
  · rename_i hv
    rcases hw with hw|hw
    · rw[hw] at hv;exact (k.2 b hv).symm
    · exact absurd (hw b hv) (by omega)
  · rfl
 refine⟨h.upd r ?_ (fun q hq=>updE_other m _ hq) (fun b q hb hl hq=>hg.block b hb ?_) hlab (fun b hb=>?_),⟨hg.os,hg.tape,hg.output,hg.size,fun b hb hl=>hg.block b hb ?_,hlab,fun b hb hl=>hg.block b hb ?_⟩⟩
 · rw[updE_same]
   exact⟨ho,fun g hg=>if_pos hg⟩
 · intro e2
   rw[k.2 b e2.symm] at hl;exact hq (Option.some.inj hl).symm
 · unfold labV
   rw[if_neg]
   · exact h.fresh b (Nat.le_trans hg.size hb)
   · intro e2
     have:=(ho.lt b e2).2;omega
 · intro e2
   rw[k.2 b e2.symm] at hl
   cases hl
 · intro e2
   rw[k.2 b e2.symm] at hl;exact hrt (Option.some.inj hl)
theorem Holds.shrink {L:Lab} {w:World} {m:Role→Entry} (h:Holds L w m) (r:Role) {v v':Value} {e:TypeId} {size n n':Nat} {xs xs':List Value} (he:m r=.own v e size n xs)
 (ho:w.ownsRow 0 e size v' n' xs') (hv:v'.ownBlock=v.ownBlock∨v'.ownBlock=none):Holds L w (updE m r (.own v' e size n' xs')):=by
 have k:=h.all r;rw[he] at k;refine h.upd r ?_ (fun q hq=>updE_other m _ hq) (fun b q hb hl hq=>rfl) (fun _ _=>rfl) h.fresh;rw[updE_same];refine⟨ho,fun g hg=>?_⟩
 rcases hv with hv|hv
 · exact k.2 g (hv ▸ hg)
 · rw[hv] at hg;cases hg
def FRow (L:Lab) (w:World) (size:Nat) (v:Value) (xs:List Value):Prop:=
 ∃ a n cap,v=.slice a n cap∧xs.length=n*size∧n≤cap∧cap≤maxLen∧(n=0∨∃ g off,a=some ⟨g,off,none⟩∧L g=none∧g<w.heap.size∧∀ j,j<n*size→w.cell? ⟨g,off+j,none⟩=xs[j]?)
theorem FRow.nil (L:Lab) (w:World) (size:Nat):FRow L w size (.slice none 0 0) []:=⟨none,0,0,rfl,by simp,by omega,by unfold maxLen;omega,.inl rfl⟩
theorem FRow.grow {L L':Lab} {w w':World} {size:Nat} {v:Value} {xs:List Value} (h:FRow L w size v xs) (g:Grow L w L' w'):FRow L' w' size v xs:=by
 obtain⟨a,n,cap,h1,h2,h3,h4,h5⟩:=h;refine⟨a,n,cap,h1,h2,h3,h4,?_⟩
 rcases h5 with h5|⟨b,off,e1,e2,e3,e4⟩
 · exact .inl h5
 · refine .inr ⟨b,off,e1,(g.lab b e3).trans e2,Nat.lt_of_lt_of_le e3 g.size,fun j hj=>?_⟩
   rw[World.cell?_of_block (w:=w) (a:=⟨b,off+j,none⟩) (g.block b e3 e2)];exact e4 j hj
end Go.Proofs.YtbefcdjcefmicaaGreat.Em
