import Derived.Test.YthicolbbmjfkfaaGreatQp4
namespace Go.Proofs.YthicolbbmjfkfaaGreat.Em
open Go.ChangeShapes Go.WideShapes Go.ChangeAt Go.RowKit En
set_option linter.unusedVariables false
set_option linter.unusedSimpArgs false
set_option maxRecDepth 100000
set_option maxHeartbeats 1600000
def Book.tmp (A:Book) (b:Nat):Book:={A with L:=lab1 A.L b .tmp}
theorem mem_tmp (A:Book) (σ:St) (b:Nat) (q:Role):memOf (A.tmp b) σ q=memOf A σ q:=by cases q<;>rfl
theorem Rep.newTmp {A:Book} {σ:St} {w:World} (h:Rep A σ w) (o:Obj):Rep (A.tmp w.heap.size) σ (w.alloc o)∧Grow A.L w (A.tmp w.heap.size).L (w.alloc o)∧(A.tmp w.heap.size).L w.heap.size=some .tmp∧(w.alloc o).heap[w.heap.size]? =some o:=by
 have g:Grow A.L w (A.tmp w.heap.size).L (w.alloc o):=(Grow.alloc A.L w o).lab1 (Nat.le_refl _) _;refine⟨⟨⟨fun r=>?_,fun b hb=>?_⟩,h.ev.grow g,h.sl,h.nw,h.nt,h.nv,h.n8,h.nc⟩,g,lab1_same _ _ _,heap_alloc_new w o⟩
 · rw[mem_tmp]
   exact (h.mem.all r).frame (fun b hb _=>Below.heap_alloc w o b hb) (fun b hb=>lab1_other (by omega))
 · have:w.heap.size+1≤b:=by simpa using hb
   show lab1 A.L w.heap.size .tmp b=none;rw[lab1_other (by omega)];exact h.mem.fresh b (by omega)
theorem tmp_grow {L L':Lab} {w w':World} {b:Nat} {o:Obj} (h:L b=some .tmp∧w.heap[b]? =some o) (g:Grow L w L' w'):L' b=some .tmp∧w'.heap[b]? =some o:=⟨(g.lab b (lt_of h.2)).trans h.1,(g.keep b (lt_of h.2) h.1).trans h.2⟩
structure But (b:Nat) (w w':World):Prop where
 os:w'.os=w.os
 tape:w'.tape=w.tape
 output:w'.output=w.output
 size:w'.heap.size=w.heap.size
 block:∀ k,k≠b→w'.heap[k]? =w.heap[k]?
theorem But.setCell (w:World) (a:Addr) (v:Value):But a.block w (w.setCell a v):=⟨rfl,rfl,rfl,by simp[World.setCell],fun k hk=>Below.heap_setCell _ _ _ _ hk⟩
theorem But.trans {b:Nat} {w w1 w2:World} (h:But b w w1) (k:But b w1 w2):But b w w2:=⟨k.os.trans h.os,k.tape.trans h.tape,k.output.trans h.output,k.size.trans h.size,fun j hj=>(k.block j hj).trans (h.block j hj)⟩
theorem But.setCells (b:Nat):∀ (vs:List Value) (o:Nat) (w:World),But b w (w.setCells b o vs)
 |[],_,w=>⟨rfl,rfl,rfl,rfl,fun _ _=>rfl⟩
 |v::vs,o,w=>(But.setCell w ⟨b,o,none⟩ v).trans (But.setCells b vs (o+1) (w.setCell ⟨b,o,none⟩ v))
section
variable {L:Lab} {w w':World} {b:Nat} (hl:L b=some .tmp) (h:But b w w')
include hl h
theorem Fix.but {k:Nat} {o:Obj} (f:Fix L w k o):Fix L w' k o:=⟨f.1,(h.block k (by rintro rfl;have f1:=f.1;rw[hl] at f1;cases f1)).trans f.2⟩
theorem FRow.but {size:Nat} {v:Value} {xs:List Value} (f:FRow L w size v xs):FRow L w' size v xs:=by
 obtain⟨ad,n,cap,rfl,e2,e3,e4,e5⟩:=f;refine⟨ad,n,cap,rfl,e2,e3,e4,?_⟩
 rcases e5 with h0|⟨g,off,rfl,e7,e8,e9⟩
 · exact .inl h0
 · refine .inr ⟨g,off,rfl,e7,by rw[h.size];exact e8,fun j hj=>?_⟩
   rw[World.cell?_of_block (w:=w) (a:=⟨g,off+j,none⟩) (h.block g (by rintro rfl;rw[hl] at e7;cases e7))];exact e9 j hj
theorem PRow.but {v:Value} {xs:List Value} (f:PRow L w v xs):PRow L w' v xs:=by
 refine⟨f.1.but hl h,fun g off n cap hv=>?_⟩
 rcases f.2 g off n cap hv with h0|⟨cs,hc⟩
 · exact .inl h0
 · by_cases hn:n=0
   · exact .inl hn
   · obtain⟨ad,n',cap',e1,e2,e3,e4,e5⟩:=f.1
     obtain⟨rfl,rfl,rfl⟩:ad=some ⟨g,off,none⟩∧n'=n∧cap'=cap:=by rw[hv] at e1;simp at e1;exact⟨e1.1.symm,e1.2.1.symm,e1.2.2.symm⟩
     obtain⟨g',off',e6,e7,_⟩:=e5.resolve_left hn;obtain⟨rfl,rfl⟩:g=g'∧off=off':=by simpa using e6
     exact .inr ⟨cs,(h.block g (by rintro rfl;rw[hl] at e7;cases e7)).trans hc⟩
theorem Evs.but:∀ {l:List Ev} {xs:List Value},Evs L w l xs→Evs L w' l xs
 |[],_,f=>f
 |_::_,_,⟨vp,ys,h1,h2,h3⟩=>⟨vp,ys,h1,h2.but hl h,Evs.but h3⟩
end
theorem Rep.but {A:Book} {σ:St} {w w':World} {b:Nat} (hR:Rep A σ w) (hl:A.L b=some .tmp) (h:But b w w'):Rep A σ w':=by
 refine⟨⟨fun r=>?_,fun k hk=>hR.mem.fresh k (by rw[←h.size];exact hk)⟩,hR.ev.but hl h,hR.sl,hR.nw,hR.nt,hR.nv,hR.n8,hR.nc⟩
 by_cases hr:r=.tmp
 · subst hr;trivial
 · refine (hR.mem.all r).frame (fun k hk hk'=>h.block k ?_) (fun _ _=>rfl)
   rintro rfl;rw[hl] at hk';exact hr (Option.some.inj hk').symm
theorem Grow.but {L L':Lab} {w w1 w2:World} {b:Nat} (g:Grow L w L' w1) (hb:w.heap.size≤b) (h:But b w1 w2):Grow L w L' w2:=
 ⟨h.os.trans g.os,h.tape.trans g.tape,h.output.trans g.output,by rw[h.size];exact g.size,fun k hk hl=>(h.block k (by omega)).trans (g.block k hk hl),g.lab,fun k hk hl=>(h.block k (by omega)).trans (g.keep k hk hl)⟩
structure Soft (L:Lab) (w:World) (L':Lab) (w':World):Prop where
 size:w.heap.size≤w'.heap.size
 block:∀ b,b<w.heap.size→L b=none→w'.heap[b]? =w.heap[b]?
 lab:∀ b,b<w.heap.size→L b=none→L' b=none
section
variable {p:KP} {L L':Lab} {w w':World}
theorem Fix.soft {b:Nat} {o:Obj} (h:Fix L w b o) (g:Soft L w L' w'):Fix L' w' b o:=⟨g.lab b (lt_of h.2) h.1,(g.block b (lt_of h.2) h.1).trans h.2⟩
theorem Box.soft {b:Nat} {v:Value} (h:Box L w b v) (g:Soft L w L' w'):Box L' w' b v:=let ⟨T,h⟩:=h;⟨T,h.soft g⟩
theorem FRow.soft {size:Nat} {v:Value} {xs:List Value} (h:FRow L w size v xs) (g:Soft L w L' w'):FRow L' w' size v xs:=by
 obtain⟨a,n,cap,h1,h2,h3,h4,h5⟩:=h;refine⟨a,n,cap,h1,h2,h3,h4,?_⟩
 rcases h5 with h5|⟨b,off,e1,e2,e3,e4⟩
 · exact .inl h5
 · refine .inr ⟨b,off,e1,g.lab b e3 e2,Nat.lt_of_lt_of_le e3 g.size,fun j hj=>?_⟩
   rw[World.cell?_of_block (w:=w) (a:=⟨b,off+j,none⟩) (g.block b e3 e2)];exact e4 j hj
theorem SRep.soft {e:Nat} {L L':Lab} {w w':World} {v:Value} (g:Soft L w L' w'):∀ {k:Option S},SRep e L w v k→SRep e L' w' v k
 |none,h=>h
 |some .now,h=>h
 |some (.live s),h=>let ⟨b0,b1,e,k0,k1⟩:=h;⟨b0,b1,e,k0.soft g,k1.soft g⟩
 |some (.head key),h=>let ⟨b0,b1,e,k0,k1⟩:=h;⟨b0,b1,e,k0.soft g,k1.soft g⟩
 |some (.visit key ahead link),h=>let ⟨b0,b1,b2,b3,e,k0,k1,k2,k3⟩:=h;⟨b0,b1,b2,b3,e,k0.soft g,k1.soft g,k2.soft g,k3.soft g⟩
 |some (.maker key ahead link id),h=>let ⟨b0,b1,b2,b3,b4,e,k0,k1,k2,k3,k4⟩:=h;⟨b0,b1,b2,b3,b4,e,k0.soft g,k1.soft g,k2.soft g,k3.soft g,k4.soft g⟩
 |some (.garbage key ahead link b),h=>let ⟨b0,b1,b2,b3,b4,e,k0,k1,k2,k3,k4⟩:=h;⟨b0,b1,b2,b3,b4,e,k0.soft g,k1.soft g,k2.soft g,k3.soft g,k4.soft g⟩
 |some (.on key link),h=>let ⟨b0,b1,b2,e,k0,k1,k2⟩:=h;⟨b0,b1,b2,e,k0.soft g,k1.soft g,k2.soft g⟩
 |some (.unlink key ahead link),h=>let ⟨b0,b1,b2,b3,e,k0,k1,k2,k3⟩:=h;⟨b0,b1,b2,b3,e,k0.soft g,k1.soft g,k2.soft g,k3.soft g⟩
 |some (.cut key ahead link nx),h=>let ⟨b0,b1,b2,b3,b4,e,k0,k1,k2,k3,k4⟩:=h;⟨b0,b1,b2,b3,b4,e,k0.soft g,k1.soft g,k2.soft g,k3.soft g,k4.soft g⟩
theorem SwRep.soft {A A':Book} {σ:St} {w w':World} (h:SwRep A σ w) (e:A'.bef=A.bef) (g:Soft A.L w A'.L w'):SwRep A' σ w':=
 ⟨by rw[bef_be e,bef_sv e];exact h.sw.soft g,h.cu.keep e⟩
theorem ResBox.soft {b:Nat} {r:Res} (h:ResBox p L w b r) (g:Soft L w L' w'):ResBox p L' w' b r:=let ⟨vp,T,h1,h2⟩:=h;⟨vp,T,h1.soft g,h2⟩
theorem StampBox.soft {b n:Nat} (h:StampBox L w b n) (g:Soft L w L' w'):StampBox L' w' b n:=let ⟨T,h1⟩:=h;⟨T,h1.soft g⟩
theorem SeenBox.soft {b n:Nat} (h:SeenBox L w b n) (g:Soft L w L' w'):SeenBox L' w' b n:=let ⟨T,k,q,h1⟩:=h;⟨T,k,q,h1.soft g⟩
theorem HeadBox.soft {b n:Nat} {x:Bool} (h:HeadBox L w b x n) (g:Soft L w L' w'):HeadBox L' w' b x n:=let ⟨v,h1,h2⟩:=h;⟨v,h1.soft g,h2.soft g⟩
theorem ListBox.soft {b:Nat} {l:List Trn} (h:ListBox L w b l) (g:Soft L w L' w'):ListBox L' w' b l:=let ⟨v,h1,h2⟩:=h;⟨v,h1.soft g,h2.soft g⟩
theorem TellBox.soft {b k:Nat} (h:TellBox p L w b k) (g:Soft L w L' w'):TellBox p L' w' b k:=let ⟨v,h1,c0,c1,e,k0,k1⟩:=h;⟨v,h1.soft g,c0,c1,e,k0.soft g,k1.soft g⟩
theorem NextBox.soft {b l1 l2 l3:Nat} (h:NextBox p L w b l1 l2 l3) (g:Soft L w L' w'):NextBox p L' w' b l1 l2 l3:=let ⟨v,h1,c0,c1,c2,c3,c4,c5,e,k0,k1,k2,k3,k4,k5⟩:=h;⟨v,h1.soft g,c0,c1,c2,c3,c4,c5,e,k0.soft g,k1.soft g,k2.soft g,k3.soft g,k4.soft g,k5.soft g⟩
theorem TurnBox.soft {b l1 l2:Nat} (h:TurnBox p L w b l1 l2) (g:Soft L w L' w'):TurnBox p L' w' b l1 l2:=let ⟨v,h1,c0,c1,c2,c3,c4,e,k0,k1,k2,k3,k4⟩:=h;⟨v,h1.soft g,c0,c1,c2,c3,c4,e,k0.soft g,k1.soft g,k2.soft g,k3.soft g,k4.soft g⟩
theorem ThnRep.soft {v:Value} {key:Nat} {t:Thn} (h:ThnRep p L w v key t) (g:Soft L w L' w'):ThnRep p L' w' v key t:=
 match t,h with
 |.get,hh=>let ⟨b0,b1,b2,b3,e,k0,k1,k2,k3⟩:=hh;⟨b0,b1,b2,b3,e,k0.soft g,k1.soft g,k2.soft g,k3.soft g⟩
 |.scan k,hh=>let ⟨b0,b1,b2,b3,b4,e,k0,k1,k2,k3,k4⟩:=hh;⟨b0,b1,b2,b3,b4,e,k0.soft g,k1.soft g,k2.soft g,k3.soft g,k4.soft g⟩
 |.change,hh=>let ⟨b0,b1,b2,b3,e,k0,k1,k2,k3⟩:=hh;⟨b0,b1,b2,b3,e,k0.soft g,k1.soft g,k2.soft g,k3.soft g⟩
 |.judge i l,hh=>let ⟨b0,b1,b2,b3,b4,e,k0,k1,k2,k3,k4⟩:=hh;⟨b0,b1,b2,b3,b4,e,k0.soft g,k1.soft g,k2.soft g,k3.soft g,k4.soft g⟩
theorem HuntAt.soft {b:Nat} {h:Hunt} (hh:HuntAt p L w b h) (g:Soft L w L' w'):HuntAt p L' w' b h:=let ⟨v,T,h1,h2⟩:=hh;⟨v,T,h1.soft g,h2.soft g⟩
theorem HuntBox.soft {b:Nat} {h:Hunt} (hh:HuntBox p L w b h) (g:Soft L w L' w'):HuntBox p L' w' b h:=let ⟨v,h1,h2⟩:=hh;⟨v,h1.soft g,h2.soft g⟩
theorem KRep.soft {v:Value} {k:K} (h:KRep p L w v k) (g:Soft L w L' w'):KRep p L' w' v k:=
 match k,h with
 |.start _,⟨bh,e,h1⟩=>⟨bh,e,h1.soft g⟩
 |.fin r,hh=>let ⟨b0,b1,b2,e,k0,k1,k2⟩:=hh;⟨b0,b1,b2,e,k0.soft g,k1.soft g,k2.soft g⟩
 |.visit h link,hh=>let ⟨b0,b1,e,k0,k1⟩:=hh;⟨b0,b1,e,k0.soft g,k1.soft g⟩
 |.older h link,hh=>let ⟨b0,b1,e,k0,k1⟩:=hh;⟨b0,b1,e,k0.soft g,k1.soft g⟩
 |.maker h link id,hh=>let ⟨b0,b1,b2,e,k0,k1,k2⟩:=hh;⟨b0,b1,b2,e,k0.soft g,k1.soft g,k2.soft g⟩
 |.ended h link mb,hh=>let ⟨b0,b1,b2,e,k0,k1,k2⟩:=hh;⟨b0,b1,b2,e,k0.soft g,k1.soft g,k2.soft g⟩
 |.ender h link mb id,hh=>let ⟨b0,b1,b2,b3,e,k0,k1,k2,k3⟩:=hh;⟨b0,b1,b2,b3,e,k0.soft g,k1.soft g,k2.soft g,k3.soft g⟩
 |.seen h link mb,hh=>let ⟨b0,b1,b2,e,k0,k1,k2⟩:=hh;⟨b0,b1,b2,e,k0.soft g,k1.soft g,k2.soft g⟩
 |.again end_,hh=>let ⟨b0,b1,b2,b3,e,k0,k1,k2,k3⟩:=hh;⟨b0,b1,b2,b3,e,k0.soft g,k1.soft g,k2.soft g,k3.soft g⟩
 |.own link,hh=>let ⟨b0,b1,b2,b3,e,k0,k1,k2,k3⟩:=hh;⟨b0,b1,b2,b3,e,k0.soft g,k1.soft g,k2.soft g,k3.soft g⟩
 |.ownTxn link w1 id,hh=>let ⟨b0,b1,b2,b3,b4,b5,e,k0,k1,k2,k3,k4,k5⟩:=hh;⟨b0,b1,b2,b3,b4,b5,e,k0.soft g,k1.soft g,k2.soft g,k3.soft g,k4.soft g,k5.soft g⟩
 |.claim link w1,hh=>let ⟨b0,b1,b2,b3,b4,e,k0,k1,k2,k3,k4⟩:=hh;⟨b0,b1,b2,b3,b4,e,k0.soft g,k1.soft g,k2.soft g,k3.soft g,k4.soft g⟩
 |.fresh link,hh=>let ⟨b0,b1,b2,b3,e,k0,k1,k2,k3⟩:=hh;⟨b0,b1,b2,b3,e,k0.soft g,k1.soft g,k2.soft g,k3.soft g⟩
 |.next link head at_,hh=>let ⟨b0,b1,b2,b3,b4,b5,e,k0,k1,k2,k3,k4,k5⟩:=hh;⟨b0,b1,b2,b3,b4,b5,e,k0.soft g,k1.soft g,k2.soft g,k3.soft g,k4.soft g,k5.soft g⟩
 |.free link head at_,hh=>let ⟨b0,b1,b2,b3,b4,b5,e,k0,k1,k2,k3,k4,k5⟩:=hh;⟨b0,b1,b2,b3,b4,b5,e,k0.soft g,k1.soft g,k2.soft g,k3.soft g,k4.soft g,k5.soft g⟩
 |.freeTxn link head at_ id,hh=>let ⟨b0,b1,b2,b3,b4,b5,e,k0,k1,k2,k3,k4,k5⟩:=hh;⟨b0,b1,b2,b3,b4,b5,e,k0.soft g,k1.soft g,k2.soft g,k3.soft g,k4.soft g,k5.soft g⟩
 |.slotB x link head,hh=>let ⟨b0,b1,b2,b3,b4,b5,e,k0,k1,k2,k3,k4,k5⟩:=hh;⟨b0,b1,b2,b3,b4,b5,e,k0.soft g,k1.soft g,k2.soft g,k3.soft g,k4.soft g,k5.soft g⟩
 |.slotE x link head,hh=>let ⟨b0,b1,b2,b3,b4,b5,e,k0,k1,k2,k3,k4,k5⟩:=hh;⟨b0,b1,b2,b3,b4,b5,e,k0.soft g,k1.soft g,k2.soft g,k3.soft g,k4.soft g,k5.soft g⟩
 |.push link head,hh=>let ⟨b0,b1,b2,b3,b4,e,k0,k1,k2,k3,k4⟩:=hh;⟨b0,b1,b2,b3,b4,e,k0.soft g,k1.soft g,k2.soft g,k3.soft g,k4.soft g⟩
 |.pushC link head,hh=>let ⟨b0,b1,b2,b3,b4,e,k0,k1,k2,k3,k4⟩:=hh;⟨b0,b1,b2,b3,b4,e,k0.soft g,k1.soft g,k2.soft g,k3.soft g,k4.soft g⟩
 |.over link,hh=>let ⟨b0,b1,b2,b3,b4,e,k0,k1,k2,k3,k4⟩:=hh;⟨b0,b1,b2,b3,b4,e,k0.soft g,k1.soft g,k2.soft g,k3.soft g,k4.soft g⟩
 |.overN link head,hh=>let ⟨b0,b1,b2,b3,b4,b5,e,k0,k1,k2,k3,k4,k5⟩:=hh;⟨b0,b1,b2,b3,b4,b5,e,k0.soft g,k1.soft g,k2.soft g,k3.soft g,k4.soft g,k5.soft g⟩
 |.overC link head,hh=>let ⟨b0,b1,b2,b3,b4,b5,e,k0,k1,k2,k3,k4,k5⟩:=hh;⟨b0,b1,b2,b3,b4,b5,e,k0.soft g,k1.soft g,k2.soft g,k3.soft g,k4.soft g,k5.soft g⟩
 |.draw,hh=>let ⟨b0,b1,b2,e,k0,k1,k2⟩:=hh;⟨b0,b1,b2,e,k0.soft g,k1.soft g,k2.soft g⟩
 |.drawH w1 now,hh=>let ⟨b0,b1,b2,e,k0,k1,k2⟩:=hh;⟨b0,b1,b2,e,k0.soft g,k1.soft g,k2.soft g⟩
 |.turn w1 now,hh=>let ⟨b0,b1,b2,b3,b4,e,k0,k1,k2,k3,k4⟩:=hh;⟨b0,b1,b2,b3,b4,e,k0.soft g,k1.soft g,k2.soft g,k3.soft g,k4.soft g⟩
 |.helpJ,hh=>let ⟨b0,b1,b2,e,k0,k1,k2⟩:=hh;⟨b0,b1,b2,e,k0.soft g,k1.soft g,k2.soft g⟩
 |.wait i,hh=>let ⟨b0,b1,b2,b3,b4,e,k0,k1,k2,k3,k4⟩:=hh;⟨b0,b1,b2,b3,b4,e,k0.soft g,k1.soft g,k2.soft g,k3.soft g,k4.soft g⟩
 |.turns [] r,hh=>let ⟨b0,b1,b2,b3,e,k0,k1,k2,k3⟩:=hh;⟨b0,b1,b2,b3,e,k0.soft g,k1.soft g,k2.soft g,k3.soft g⟩
 |.turns (x::l) r,hh=>let ⟨b0,b1,b2,b3,b4,e,k0,k1,k2,k3,k4⟩:=hh;⟨b0,b1,b2,b3,b4,e,k0.soft g,k1.soft g,k2.soft g,k3.soft g,k4.soft g⟩
 |.commit,hh=>let ⟨b0,b1,b2,e,k0,k1,k2⟩:=hh;⟨b0,b1,b2,e,k0.soft g,k1.soft g,k2.soft g⟩
 |.abort e reason,hh=>let ⟨b0,b1,b2,b3,b4,e,k0,k1,k2,k3,k4⟩:=hh;⟨b0,b1,b2,b3,b4,e,k0.soft g,k1.soft g,k2.soft g,k3.soft g,k4.soft g⟩
end
theorem But.soft {L:Lab} {w w':World} {b:Nat} (hl:L b=some .tmp) (h:But b w w'):Soft L w L w':=⟨by rw[h.size];exact Nat.le_refl _,fun k hk e=>h.block k (by rintro rfl;rw[hl] at e;cases e),fun _ _ e=>e⟩
theorem heap_setCell_same {w:World} {b:Nat} {cs:Array Value} {T:TypeId} (h:w.heap[b]? =some (.cells cs T)) (i:Nat) (v:Value):(w.setCell ⟨b,i,none⟩ v).heap[b]? =some (.cells (cs.setIfInBounds i v) T):=by
 simp only[World.setCell,Array.getElem?_modify,h];simp
theorem heap_setCells6 {w:World} {b:Nat} {a0 a1 a2 a3 a4 a5:Value} {T:TypeId} (h:w.heap[b]? =some (.cells #[a0,a1,a2,a3,a4,a5] T)) (v0 v1 v2 v3 v4 v5:Value):(w.setCells b 0 [v0,v1,v2,v3,v4,v5]).heap[b]? =some (.cells #[v0,v1,v2,v3,v4,v5] T):=by
 have h1:=heap_setCell_same h 0 v0;have h2:=heap_setCell_same h1 1 v1;have h3:=heap_setCell_same h2 2 v2;have h4:=heap_setCell_same h3 3 v3;have h5:=heap_setCell_same h4 4 v4;have h6:=heap_setCell_same h5 5 v5;exact h6
theorem heap_setCells5 {w:World} {b:Nat} {a0 a1 a2 a3 a4:Value} {T:TypeId} (h:w.heap[b]? =some (.cells #[a0,a1,a2,a3,a4] T)) (v0 v1 v2 v3 v4:Value):(w.setCells b 0 [v0,v1,v2,v3,v4]).heap[b]? =some (.cells #[v0,v1,v2,v3,v4] T):=by
 have h1:=heap_setCell_same h 0 v0;have h2:=heap_setCell_same h1 1 v1;have h3:=heap_setCell_same h2 2 v2;have h4:=heap_setCell_same h3 3 v3;have h5:=heap_setCell_same h4 4 v4;exact h5
theorem there_of {w:World} {b:Nat} {cs:Array Value} {T:TypeId} (h:w.heap[b]? =some (.cells cs T)):w.there b 0 cs.size:=by
 intro j hj;rw[Nat.zero_add];refine⟨?_,by simp[World.frozen?,h]⟩;rw[cell_of_row w b j _ _ _ h];simp[hj]
variable {A:Book} {σ:St} {w:World}
theorem change_none (hR:Rep A σ w) (s:Nat) (t:Txn) (ht:σ.txns.getD s none=some t) (c:Cal) (hc:σ.calls.getD s none=some c) (hx:t.cell c.op.key=none):
 Calls Tryz.prog 98 #[.pointer (some ⟨A.be,0,none⟩),.pointer (some ⟨A.bt s,0,none⟩),.pointer (some ⟨A.bc s,0,none⟩)] w (Tells A w s (σ,.start ⟨c.op.key,t.begin_,.change⟩)):=by
 obtain⟨r3,g3,_,_,_⟩:=allocs3 hR #[.pointer (some ⟨A.be,0,none⟩)] 32 #[.pointer (some ⟨A.bt s,0,none⟩)] 100 #[.pointer (some ⟨A.bc s,0,none⟩)] 105;have k1:=r3.call hc 1 (v:=zi (c.op.key:Int)) rfl;obtain⟨r4,g4,f0,f1,f2,f3⟩:=allocs4 hR #[.pointer (some ⟨A.be,0,none⟩)] 32 #[.pointer (some ⟨A.bt s,0,none⟩)] 100 #[.pointer (some ⟨A.bc s,0,none⟩)] 105 #[zi (c.op.key:Int)] 3;have a0:=f0.cell 0 (v:=.pointer (some ⟨A.be,0,none⟩)) rfl;have a1:=f1.cell 0 (v:=.pointer (some ⟨A.bt s,0,none⟩)) rfl;have a2:=f2.cell 0 (v:=.pointer (some ⟨A.bc s,0,none⟩)) rfl;have a3:=f3.cell 0 (v:=zi (c.op.key:Int)) rfl;have a7:=r4.txn ht 7 (v:=.map (some (A.bm s))) rfl;have ab:=r4.txn ht 3 (v:=zu (t.begin_:Int)) rfl;have hlk:=fun n=>lookup_run (r4.drewN n) ht c.op.key
 have hpx:A.px s t c.op.key=.pointer none:=by unfold Book.px;rw[hx];rfl
 rw[hpx] at hlk;have gd:=fun n=>(Grow.drewN A.L ((((w.alloc (.cells #[.pointer (some ⟨A.be,0,none⟩)] 32)).alloc (.cells #[.pointer (some ⟨A.bt s,0,none⟩)] 100)).alloc (.cells #[.pointer (some ⟨A.bc s,0,none⟩)] 105)).alloc (.cells #[zi (c.op.key:Int)] 3)) n).trans (Grow.drew A.L _)
 have HF:=zH (fun n=>zA (find_any (r4.drewN n).drew s c.op.key t.begin_ (.func (.func 130) #[] #[.pointer (some ⟨w.heap.size+1+1,0,none⟩),.pointer (some ⟨w.heap.size+1,0,none⟩),.pointer (some ⟨w.heap.size+1+1+1,0,none⟩),.pointer (some ⟨w.heap.size,0,none⟩)]) .change ⟨_,_,_,_,rfl,f2.box.grow (gd n),f1.box.grow (gd n),f3.box.grow (gd n),f0.box.grow (gd n)⟩) (g4.trans (gd n)));clear hR ht hc hx r3 g3 r4 g4 f0 f1 f2 f3 gd hpx;generalize c.op.key=key at*;generalize t.begin_=bg at*;go_enter Tryz.func98,Tryz.ntmps98;go_wp2_with fail;generalize (((w.alloc _).alloc _).alloc _).alloc _=w4 at*
 go_quiet (fail)
 go_wp2_with fail;generalize hw5:w4.drewN _=w5;have e0:w5.cell? ⟨w.heap.size,0,none⟩=some (.pointer (some ⟨A.be,0,none⟩)):=by rw[←hw5];exact a0
 have e1:w5.cell? ⟨w.heap.size+1,0,none⟩=some (.pointer (some ⟨A.bt s,0,none⟩)):=by rw[←hw5];exact a1
 have e3:w5.cell? ⟨w.heap.size+1+1+1,0,none⟩=some (zi (key:Int)):=by rw[←hw5];exact a3
 have eb:w5.cell? ⟨A.bt s,3,none⟩=some (zu (bg:Int)):=by rw[←hw5];exact ab
 have HF0:∀ n,w4.drewN n=w5→Calls Tryz.prog 114 #[.pointer (some ⟨A.be,0,none⟩),.pointer (some ⟨A.bt s,0,none⟩),zi (key:Int),zu (bg:Int),.func (.func 130) #[] #[.pointer (some ⟨w.heap.size+1+1,0,none⟩),.pointer (some ⟨w.heap.size+1,0,none⟩),.pointer (some ⟨w.heap.size+1+1+1,0,none⟩),.pointer (some ⟨w.heap.size,0,none⟩)]] w5.drew (Tells A w5.drew s (σ,.start ⟨key,bg,.change⟩))∧Grow A.L w A.L w5.drew:=fun n h=>by rw[←h];exact HF.out n
 have HF1:=HF0 _ hw5;have HF2:=zH HF1;clear a0 a1 a2 a3 a7 ab hlk HF HF0 HF1 hw5;refine wp_region_still_tail 8 (by kernel_rfl) (by kernel_rfl) ?_;simp only[zta,ztb,ztc,ztd]
 repeat still_step
 refine wpStill_nil ?_;go_wp2_with (go_at_call 114;refine (HF2.out.1).mono ?_;rintro e w2 ⟨A2,v,rfl,p1,p2,p3,p4⟩);go_ret;exact⟨A2,v,rfl,p1,HF2.out.2.trans p2,p3,p4⟩
theorem first_tells (hR:Rep A σ w) (s:Nat) (c:Cal) (hc:σ.calls.getD s none=some c) (Q:Ending→World→Prop) (h1:c.op.kind=1→Calls Tryz.prog 94 #[.pointer (some ⟨A.be,0,none⟩),.pointer (some ⟨A.bt s,0,none⟩),.pointer (some ⟨A.bc s,0,none⟩)] w Q) (h5:c.op.kind=5→Calls Tryz.prog 95 #[.pointer (some ⟨A.be,0,none⟩),.pointer (some ⟨A.bt s,0,none⟩),.pointer (some ⟨A.bc s,0,none⟩),zi (c.op.key:Int)] w Q) (h6:c.op.kind=6→Calls Tryz.prog 96 #[.pointer (some ⟨A.be,0,none⟩),.pointer (some ⟨A.bt s,0,none⟩),.pointer (some ⟨A.bc s,0,none⟩)] w Q) (h7:c.op.kind=7→Calls Tryz.prog 97 #[.pointer (some ⟨A.be,0,none⟩),.pointer (some ⟨A.bt s,0,none⟩),.pointer (some ⟨A.bc s,0,none⟩),zi 0,zi 1] w Q)
 (hz:c.op.kind≠1→c.op.kind≠5→c.op.kind≠6→c.op.kind≠7→Calls Tryz.prog 98 #[.pointer (some ⟨A.be,0,none⟩),.pointer (some ⟨A.bt s,0,none⟩),.pointer (some ⟨A.bc s,0,none⟩)] w Q) (hQ:∀ e w',Q e w'→∃ v,e=.returned v):
 Calls Tryz.prog 70 #[.pointer (some ⟨A.be,0,none⟩),.pointer (some ⟨A.bt s,0,none⟩),.pointer (some ⟨A.bc s,0,none⟩)] w Q:=by
 have k0:w.cell? ⟨A.bc s,0,none⟩=some (zi (c.op.kind:Int)):=hR.call hc 0 rfl;have k1:w.cell? ⟨A.bc s,1,none⟩=some (zi (c.op.key:Int)):=hR.call hc 1 rfl;clear hR hc;generalize c.op.kind=kd at*;generalize c.op.key=key at*;have HQ:=zH hQ;clear hQ
 by_cases k1':kd=1
 · subst k1'
   have k0':w.cell? ⟨A.bc s,0,none⟩=some (zi 1):=k0;clear k0;have HC:=zH (h1 rfl);clear h1 h5 h6 h7 hz;go_enter Tryz.func70,Tryz.ntmps70;go_wp2_with (go_at_call 94;refine HC.out.mono ?_;intro e w2 hq;obtain⟨v,rfl⟩:=HQ.out e w2 hq;have HV:=zH hq;clear hq);exact HV.out
 · skip
   by_cases k5':kd=5
   · subst k5'
     have k0':w.cell? ⟨A.bc s,0,none⟩=some (zi 5):=k0;clear k0;have HC:=zH (h5 rfl);clear h1 h5 h6 h7 hz;clear k1';go_enter Tryz.func70,Tryz.ntmps70;go_wp2_with (go_at_call 95;refine HC.out.mono ?_;intro e w2 hq;obtain⟨v,rfl⟩:=HQ.out e w2 hq;have HV:=zH hq;clear hq);exact HV.out
   · skip
     by_cases k6':kd=6
     · subst k6'
       have k0':w.cell? ⟨A.bc s,0,none⟩=some (zi 6):=k0;clear k0;have HC:=zH (h6 rfl);clear h1 h5 h6 h7 hz;clear k1' k5';go_enter Tryz.func70,Tryz.ntmps70;go_wp2_with (go_at_call 96;refine HC.out.mono ?_;intro e w2 hq;obtain⟨v,rfl⟩:=HQ.out e w2 hq;have HV:=zH hq;clear hq);exact HV.out
     · skip
       by_cases k7':kd=7
       · subst k7'
         have k0':w.cell? ⟨A.bc s,0,none⟩=some (zi 7):=k0;clear k0;have HC:=zH (h7 rfl);clear h1 h5 h6 h7 hz;clear k1' k5' k6';go_enter Tryz.func70,Tryz.ntmps70;go_wp2_with (go_at_call 97;refine HC.out.mono ?_;intro e w2 hq;obtain⟨v,rfl⟩:=HQ.out e w2 hq;have HV:=zH hq;clear hq);exact HV.out
       · skip
         have a1:((kd:Int)==1)=false:=by simp;omega
         have b1:((kd:Int)=1)=False:=by simp;omega
         have n1:(kd=1)=False:=by simp;omega
         have a5:((kd:Int)==5)=false:=by simp;omega
         have b5:((kd:Int)=5)=False:=by simp;omega
         have n5:(kd=5)=False:=by simp;omega
         have a6:((kd:Int)==6)=false:=by simp;omega
         have b6:((kd:Int)=6)=False:=by simp;omega
         have n6:(kd=6)=False:=by simp;omega
         have a7:((kd:Int)==7)=false:=by simp;omega
         have b7:((kd:Int)=7)=False:=by simp;omega
         have n7:(kd=7)=False:=by simp;omega
         have HC:=zH (hz k1' k5' k6' k7');clear h1 h5 h6 h7 hz;clear k1' k5' k6' k7';go_enter Tryz.func70,Tryz.ntmps70;go_wp2_with (go_at_call 98;refine HC.out.mono ?_;intro e w2 hq;obtain⟨v,rfl⟩:=HQ.out e w2 hq;have HV:=zH hq;clear hq);exact HV.out
theorem ThnRep.enter {p:KP} {L:Lab} {w:World} {v:Value} {key:Nat} {t:Thn} (h:ThnRep p L w v key t):∃ f c,v=.func (.func f) #[] c∧∀ args w,(callFunc f args).run Tryz.prog w=.ok (.enter f args) w:=by
 cases t
 · obtain⟨b0,b1,b2,b3,e,_⟩:=h;exact⟨_,_,e,fun args w=>by kernel_rfl⟩
 · obtain⟨b0,b1,b2,b3,b4,e,_⟩:=h;exact⟨_,_,e,fun args w=>by kernel_rfl⟩
 · obtain⟨b0,b1,b2,b3,e,_⟩:=h;exact⟨_,_,e,fun args w=>by kernel_rfl⟩
 · obtain⟨b0,b1,b2,b3,b4,e,_⟩:=h;exact⟨_,_,e,fun args w=>by kernel_rfl⟩
def ThnAt (A:Book) (w:World) (σ:St) (s:Nat) (hu:Hunt) (link:Nat):Prop:=∀ w1 f c,Rep A σ w1→Grow A.L w A.L w1→ThnRep (kp A σ s) A.L w1 (.func (.func f) #[] c) hu.key hu.thn→Calls Tryz.prog f (#[zu (link:Int)]++c) w1 (Tells A w1 s (σ.thn s hu link))
theorem visit_any (hR:Rep A σ w) (s:Nat) (bh:Nat) (hu:Hunt) (hh:HuntAt (kp A σ s) A.L w bh hu) (link:Nat) (HT:link=0→ThnAt A w σ s hu 0):
 Calls Tryz.prog 162 #[.pointer (some ⟨bh,0,none⟩),zu (link:Int)] w (Tells A w s (σ.visit s hu link)):=by
 obtain⟨r1,g1,f0,f1⟩:=allocs2 hR #[.pointer (some ⟨bh,0,none⟩)] 246 #[zu (link:Int)] 25;have c0:=f0.cell 0 (v:=.pointer (some ⟨bh,0,none⟩)) rfl;have c1:=f1.cell 0 (v:=zu (link:Int)) rfl;have hh1:=hh.grow g1
 by_cases h0:link=0
 · have e0:σ.visit s hu link=σ.thn s hu 0:=by unfold St.visit;rw[if_pos h0]
   rw[e0];obtain⟨vt,TT,fh,hth⟩:=hh1;obtain⟨fv,cv,rfl,hent⟩:=hth.enter;have d1:((link:Int)==0)=true:=by simpa using h0
   have d3:((link:Int)=0)=True:=by simpa using h0
   have h4:=fh.cell 4 (v:=.func (.func fv) #[] cv) rfl;have hf:=HT h0 _ fv cv r1 g1 hth;have HF:=zH (zA hf g1);clear hR hh r1 g1 f0 f1 fh hth hf HT h0 e0;go_enter Tryz.func162,Tryz.ntmps162;go_wp2_with fail;refine HF.out.1.mono ?_;rintro e w3 ⟨A',v,rfl,q1,q2,q3,q4⟩;go_wp2_with fail;go_ret;exact⟨A',v,rfl,q1,HF.out.2.trans q2,q3,q4⟩
 · have e0:σ.visit s hu link=(σ,.visit hu link):=by unfold St.visit;rw[if_neg h0]
   rw[e0];have d1:((link:Int)==0)=false:=by simpa using h0
   have d3:((link:Int)=0)=False:=by simpa using h0
   have HQ:=zH (zA r1 (zA g1 (zA f0 (zA f1 hh1))));clear hR hh r1 g1 f0 f1 hh1 HT h0 e0;go_enter Tryz.func162,Tryz.ntmps162;go_wp2_with fail;go_ret;obtain⟨r1,g1,f0,f1,hh1⟩:=HQ.out;exact⟨A,_,rfl,r1,g1,Stay.refl _ _,_,_,rfl,⟨_,f0.box,hh1⟩,f1.box⟩
theorem k_start (hR:Rep A σ w) (s:Nat) (hu:Hunt) (bh:Nat) (hh:HuntAt (kp A σ s) A.L w bh hu) (hk:hu.key<64) (hcnt:σ.count<4000000000000000000) (HT:σ.word (9+hu.key)=0→∀ w1,Rep A σ.tick w1→Grow A.L w A.L w1→ThnAt A w1 σ.tick s hu 0):
 Calls Tryz.prog 142 #[.pointer (some ⟨bh,0,none⟩)] w (Ran A w s (σ.run s (.start hu))):=by
 have hh0:=hh;obtain⟨vt,TT,fh,hth⟩:=hh;have h0:=fh.cell 0 (v:=.pointer (some ⟨A.be,0,none⟩)) rfl;have h2:=fh.cell 2 (v:=zi (hu.key:Int)) rfl;have e2:=hR.z2;have n1:IntKind.i64.wrap (9+(hu.key:Int))=9+(hu.key:Int):=by rw[IntKind.wrap_i64];omega
 have HL:=zH (load_i hR.drew (9+hu.key) (9+(hu.key:Int)) (by omega) (by rw[hR.nw];omega) hcnt);have HG:=zG A.L w;have HK:Hid (∀ w',Kp A w w'→w'.cell? ⟨bh,0,none⟩=some (.pointer (some ⟨A.be,0,none⟩))∧w'.cell? ⟨bh,2,none⟩=some (zi (hu.key:Int))∧w'.cell? ⟨A.be,2,none⟩=some (.pointer (some ⟨A.ba,0,none⟩))):=fun w' k=>⟨k.fix _ _ _ fh.1 h0,k.fix _ _ _ fh.1 h2,k.ea⟩
 have HB:Hid (∀ w1,Rep A σ.tick w1→Grow A.L w A.L w1→Calls Tryz.prog 162 #[.pointer (some ⟨bh,0,none⟩),zu (σ.word (9+hu.key):Int)] w1 (Tells A w1 s (σ.tick.visit s hu (σ.word (9+hu.key))))):=
  fun w1 r g=>visit_any r s bh hu (hh0.grow g) _ fun hz=>HT hz w1 r g
 have hrun:σ.run s (.start hu)=((σ.tick.visit s hu (σ.word (9+hu.key))).1,some (σ.tick.visit s hu (σ.word (9+hu.key))).2):=rfl;rw[hrun];clear hR hh0 fh hth hk hcnt HT hrun;generalize σ.tick.visit s hu (σ.word (9+hu.key))=res at*;generalize σ.word (9+hu.key)=hd at*;generalize hu.key=key at*;go_enter Tryz.func142,Tryz.ntmps142;go_wp2_with fail
 go_region_held3 (fun w'=>w'.cell? ⟨bh,0,none⟩=some (.pointer (some ⟨A.be,0,none⟩))∧w'.cell? ⟨bh,2,none⟩=some (zi (key:Int))∧w'.cell? ⟨A.be,2,none⟩=some (.pointer (some ⟨A.ba,0,none⟩)))
  (first|exact⟨h0,h2,e2⟩|assumption|exact HK.out _ (Kp.of (by assumption) (by assumption) (by assumption)))
  (first|(go_at_call 42;refine HL.out.mono ?_;rintro e w1 ⟨rfl,q1,q2⟩;have q4:=HG.out.trans q2;have q3:=Stay.refl A s;clear q2)|(go_at_call 162;refine (HB.out _ (by assumption) (by assumption)).mono ?_;rintro e w2 ⟨A',v,rfl,p1,p2,p3,p4⟩;have p5:=(‹Grow A.L w A.L _›).trans p2))
 go_wp2_with fail;go_ret;exact⟨A',_,rfl,p1,p5,p3,p4⟩
def Gave (A:Book) (w:World) (σ':St):Ending→World→Prop:=fun e w'=>(∃ z:Int,e=.returned (zi z))∧∃ A',FreeOnly A A'∧Rep A' σ' w'∧Grow A.L w A'.L w'
theorem give_off {σ:St} {link:Nat} (h:σ.poolLive link=false):σ.give link=σ:=by unfold St.give;rw[h];rfl
theorem give_worn {σ:St} {link:Nat} (h:σ.poolLive link=true) (ht:(σ.tags.getD (slotOf link) (0,false)).1=65535):σ.give link={σ with tags:=σ.tags.set (slotOf link) ((σ.tags.getD (slotOf link) (0,false)).1,false),worn:=σ.worn+1}:=by
 unfold St.give;rw[h];simp only[if_pos,ht]
theorem give_on {σ:St} {link:Nat} (h:σ.poolLive link=true) (ht:(σ.tags.getD (slotOf link) (0,false)).1≠65535):σ.give link={σ with tags:=σ.tags.set (slotOf link) ((σ.tags.getD (slotOf link) (0,false)).1+1,false),free:=σ.free++[slotOf link]}:=by
 unfold St.give;rw[h];simp only[if_pos,if_neg ht]
theorem give_any (hR:Rep A σ w) (link:Nat) (hv:VL σ link) (hp:PoolOk σ):
 Calls Tryz.prog 100 #[.pointer (some ⟨A.bp,0,none⟩),zu (link:Int)] w (Gave A w (σ.give link)):=by
 have hi:=slotOf_lt hv;have hlv:=live_any hR link hv hp.tag
 cases hlive:σ.poolLive link with
 |false=>
  rw[give_off hlive];rw[hlive] at hlv;have HL:=zH hlv;have HR:=zH hR;clear hlv hR hv hp hi hlive;go_enter Tryz.func100,Tryz.ntmps100;go_wp2_with (go_at_call 134;refine HL.out.mono ?_;rintro e w' ⟨rfl,rfl⟩);go_ret;exact⟨⟨_,rfl⟩,A,⟨_,_,rfl⟩,HR.out,Grow.refl _ _⟩
 |true=>
  rw[hlive] at hlv;have hu:=Word.unlink_any (link:Int) (by omega) (by have:=hv.u;omega) w;rw[←slotOf_cast hv.lo] at hu;have p0:w.cell? ⟨A.bp,0,none⟩=some (.slice (some ⟨A.bs,0,none⟩) σ.slots σ.slots):=hR.pool 0 rfl;have b0:(0:Int)≤(slotOf link:Int):=by omega
  have b1:(slotOf link:Int)<(σ.slots:Int):=by omega
  have t1:=(hR.tag hi).2;have z1:=hR.tagF (2*slotOf link+1);rw[Nat.mul_comm 2] at t1 z1;obtain⟨r1,g1⟩:=hR.takenSet hi false;rw[Nat.mul_comm 2] at r1 g1;have i0:=(r1.tag (i:=slotOf link) hi).1;rw[Nat.mul_comm 2] at i0;have hsl:=hR.sl;have etag:((σ.tags.set (slotOf link) ((σ.tags.getD (slotOf link) (0,false)).1,false)).getD (slotOf link) (0,false))=((σ.tags.getD (slotOf link) (0,false)).1,false):=by
   rw[getD_set _ _ _ _ _ (by rw[hR.nt];exact hi),if_pos rfl]
  rw[etag] at i0;have q1:=r1.pool 1 (v:=zi 65535) rfl;have q3:=r1.pool 3 (v:=zi (σ.worn:Int)) rfl;have z3:=r1.poolF 3
  by_cases htg:(σ.tags.getD (slotOf link) (0,false)).1=65535
  · rw[give_worn hlive htg]
    rw[htg] at i0;have hww:IntKind.i64.wrap ((σ.worn:Int)+1)=(σ.worn:Int)+1:=by have:=hp.worn;rw[IntKind.wrap_i64];omega
    have HU:=zH hu;have HL:=zH hlv;have HR:=zH (zA r1 g1);clear hu hlv hR hv hp hi hlive r1 g1 hsl etag htg;go_enter Tryz.func100,Tryz.ntmps100;go_wp2_with (first|(go_at_call 134;refine HL.out.mono ?_;rintro e w' ⟨rfl,rfl⟩)|(go_at_call 107;refine HU.out.mono ?_;rintro e w' ⟨rfl,rfl⟩));generalize hw1:w.setCell ⟨A.bs,slotOf link*2+1,none⟩ (.bool false)=w1 at*
    go_quiet (fail)
    generalize hw2:w1.drewN _=w2;obtain⟨r1,g1⟩:=HR.out;have r2:Rep A {σ with tags:=σ.tags.set (slotOf link) ((σ.tags.getD (slotOf link) (0,false)).1,false)} w2:=by rw[←hw2];exact r1.drewN _
    have g2:Grow A.L w A.L w2:=by rw[←hw2];exact g1.trans (Grow.drewN _ _ _)
    have q3:=r2.pool 3 (v:=zi (σ.worn:Int)) rfl;have z3:=r2.poolF 3;obtain⟨r3,g3⟩:=r2.wornSet (σ.worn+1);rw[show ((σ.worn+1:Nat):Int)=(σ.worn:Int)+1 from rfl] at r3 g3;have HQ:=zH (zA r3 (g2.trans g3));clear r1 g1 r2 g2 r3 g3 hw2;go_wp2_with fail;go_ret;exact⟨⟨_,rfl⟩,A,⟨_,_,rfl⟩,HQ.out.1,HQ.out.2⟩
  · rw[give_on hlive htg]
    have htl:=hp.tag _ hi;have hfl:=hp.n;have el:(σ.tags.set (slotOf link) ((σ.tags.getD (slotOf link) (0,false)).1,false)).set (slotOf link) ((σ.tags.getD (slotOf link) (0,false)).1+1,((σ.tags.set (slotOf link) ((σ.tags.getD (slotOf link) (0,false)).1,false)).getD (slotOf link) (0,false)).2)=σ.tags.set (slotOf link) ((σ.tags.getD (slotOf link) (0,false)).1+1,false):=by rw[etag,List.set_set]
    have NEXT : Hid (∀ w2, Rep A { σ with tags := σ.tags.set (slotOf link) ((σ.tags.getD (slotOf link) (0, false)).1, false) } w2 → w2.cell? ⟨A.bs, slotOf link * 2, none⟩ = some (zi ((σ.tags.getD (slotOf link) (0, false)).1 : Int)) ∧ w2.frozen? ⟨A.bs, slotOf link * 2, none⟩ = false ∧
        Rep A {σ with tags:=σ.tags.set (slotOf link) ((σ.tags.getD (slotOf link) (0,false)).1+1,false)} (w2.setCell ⟨A.bs,slotOf link*2,none⟩ (zi (((σ.tags.getD (slotOf link) (0,false)).1:Int)+1)))∧Grow A.L w2 A.L (w2.setCell ⟨A.bs,slotOf link*2,none⟩ (zi (((σ.tags.getD (slotOf link) (0,false)).1:Int)+1)))):=by
     rw[Nat.mul_comm (slotOf link) 2];intro w2 r2;have a1:=(r2.tag (i:=slotOf link) hi).1;rw[show (({σ with tags:=σ.tags.set (slotOf link) ((σ.tags.getD (slotOf link) (0,false)).1,false)}:St).tags.getD (slotOf link) (0,false))=_ from etag] at a1;obtain⟨r3,g3⟩:=r2.tagSet hi ((σ.tags.getD (slotOf link) (0,false)).1+1);refine⟨a1,r2.tagF _,?_,g3⟩;have r3':=r3;rw[show ({({σ with tags:=σ.tags.set (slotOf link) ((σ.tags.getD (slotOf link) (0,false)).1,false)}:St) with tags:=({σ with tags:=σ.tags.set (slotOf link) ((σ.tags.getD (slotOf link) (0,false)).1,false)}:St).tags.set (slotOf link) ((σ.tags.getD (slotOf link) (0,false)).1+1,(({σ with tags:=σ.tags.set (slotOf link) ((σ.tags.getD (slotOf link) (0,false)).1,false)}:St).tags.getD (slotOf link) (0,false)).2)}:St)={σ with tags:=σ.tags.set (slotOf link) ((σ.tags.getD (slotOf link) (0,false)).1+1,false)} by simp only[el]] at r3';exact r3'
    clear el etag;generalize (σ.tags.getD (slotOf link) (0,false)).1=tg at*;have d1:((tg:Int)==65535)=false:=by simp;omega
    have d2:((tg:Int)=65535)=False:=by simp;omega
    have d3:IntKind.i64.wrap ((tg:Int)+1)=(tg:Int)+1:=by rw[IntKind.wrap_i64];omega
    have HU:=zH hu;have HL:=zH hlv;have HR:=zH (zA r1 g1);have HN:=zH hfl;clear hu hlv hR hv hp hi hlive r1 g1 hsl htg htl hfl;go_enter Tryz.func100,Tryz.ntmps100;go_wp2_with (first|(go_at_call 134;refine HL.out.mono ?_;rintro e w' ⟨rfl,rfl⟩)|(go_at_call 107;refine HU.out.mono ?_;rintro e w' ⟨rfl,rfl⟩));generalize hw1:w.setCell ⟨A.bs,slotOf link*2+1,none⟩ (.bool false)=w1 at*
    go_quiet (fail)
    generalize hw2:w1.drewN _=w2;obtain⟨r1,g1⟩:=HR.out;have r2:Rep A {σ with tags:=σ.tags.set (slotOf link) (tg,false)} w2:=by rw[←hw2];exact r1.drewN _
    have g2:Grow A.L w A.L w2:=by rw[←hw2];exact g1.trans (Grow.drewN _ _ _)
    obtain⟨a1,a2,r3,g3⟩:=NEXT.out w2 r2;have g4:=g2.trans g3;obtain⟨av,capv,hv,hstep⟩:=free_step r3 (slotOf link);obtain⟨r5,g5,_⟩:=allocs1 r3 #[zi (slotOf link:Int)] 3;have p2:=r3.pool 2 (v:=A.vfree) rfl;have hown:=free_row r5;rw[hv] at p2 hown;have HS:=zH hstep;have HV:=zH hv;have HO:=zH hown;have HQ:=zH g4;clear r1 g1 r2 g2 r3 g3 g4 hw2 hv hown hstep r5 g5;obtain⟨ii,hii,hz0,hz1,hz2⟩:=info_parts infoI;have hsz:∀ a u,(w2.setCell a u).heap.size=w2.heap.size:=fun a u=>by simp[World.setCell]
    have HZ:=zH hsz;clear hsz;go_wp2_with (refine Ow.wpList_append_to _ rfl (.tmp 55) (.tmp 57) 36 rfl 0 _ ii _ 1 8 Tryz.underlying36 hii hz0 hz1 hz2 rfl (by decide) (.slice av σ.free.length capv) σ.free.length (σ.free.map i64) rfl HO.out ⟨w2.heap.size,0,none⟩ 1 1 (by omega) [zi (slotOf link:Int)] rfl rfl (by intro j' u hu;rw[←HZ.out ⟨A.bs,slotOf link*2,none⟩ (zi ((tg:Int)+1))];exact Ow.new_row _ [zi (slotOf link:Int)] _ _ rfl j' u hu) (by intro u hu;obtain rfl:=List.mem_singleton.1 hu;rfl) (by have:=HN.out;unfold maxLen;omega) (by have:=HN.out;omega) (Nat.zero_le _) ?_;intro v' w4 q1 q2 q3;obtain⟨k1,k2,k3,_⟩:=HS.out v' w4 q1 (by rw[HV.out];exact q2) (by rw[HV.out];exact q3);obtain⟨a4,cap4,rfl,_⟩:=Ow.own_form q1;have K1:=zH k1;clear k1 q1 q2 q3);go_ret;obtain⟨A2,h1,h2,h3⟩:=K1.out;exact⟨⟨_,rfl⟩,A2,h1,h2,HQ.out.trans h3⟩
theorem lost_any (hR:Rep A σ w) (s:Nat) (link:Nat) (hv0:link=0∨VL σ link) (hp:PoolOk σ):
 Calls Tryz.prog 174 #[.pointer (some ⟨A.be,0,none⟩),.pointer (some ⟨A.bt s,0,none⟩),.pointer (some ⟨A.bc s,0,none⟩),zu (link:Int)] w (Tells A w s (σ.lost link)):=by
 by_cases h0:link=0
 · have e:σ.lost link=(σ,.abort 14 2):=by unfold St.lost;rw[if_neg (by simpa using h0)]
   rw[e];have d1:((link:Int) !=0)=false:=by simpa using h0
   have d2:((link:Int)=0)=True:=by simpa using h0
   have d3:((link:Int)==0)=true:=by simpa using h0
   have HA:=zH (abort_any hR s 14 2);clear hR hv0 hp h0 e;go_enter Tryz.func174,Tryz.ntmps174;go_wp2_with (go_at_call 97;refine HA.out.mono ?_;rintro e w2 ⟨A2,v,rfl,p1,p2,p3,p4⟩);go_ret;exact⟨A2,v,rfl,p1,p2,p3,p4⟩
 · have hv:=hv0.resolve_left h0
   have e:σ.lost link=(σ.give link,.abort 14 2):=by unfold St.lost;rw[if_pos (by simpa using h0)]
   rw[e];have d1:((link:Int) !=0)=true:=by simpa using h0
   have d2:((link:Int)=0)=False:=by simpa using h0
   have d3:((link:Int)==0)=false:=by simpa using h0
   have e3:=hR.eng 3 (v:=.pointer (some ⟨A.bp,0,none⟩)) rfl;have HG:=zH (give_any hR link hv hp);clear hR hv0 hv hp h0 e;generalize σ.give link=σ1 at*;go_enter Tryz.func174,Tryz.ntmps174;go_wp2_with (first|(go_at_call 100;refine HG.out.mono ?_;rintro e w1 ⟨⟨z,rfl⟩,A1,⟨L1,v1,rfl⟩,q1,q2⟩;have HA:=zH (abort_any q1 s 14 2);have HQ:=zH q2;clear q1 q2)|(go_at_call 97;refine HA.out.mono ?_;rintro e w2 ⟨A2,v,rfl,p1,p2,p3,p4⟩));go_ret;have hst:Stay A {A with L:=L1,vfree:=v1} s:=⟨rfl,rfl,rfl,rfl,rfl,rfl,rfl,rfl,rfl,rfl,rfl,fun _ _=>rfl,fun _ _=>rfl⟩
   exact⟨A2,v,rfl,p1,HQ.out.trans p2,hst.trans p3,p4⟩
theorem place_still (h:Rep A σ w) (id:Nat) (hid:id≤65535):
 Calls Tryz.prog 48 #[.pointer (some ⟨A.be,0,none⟩),zi (id:Int)] w fun e w'=>e=.returned (zi ((σ.place id:Nat):Int))∧w'=w:=flip (place_any h id hid)
theorem k_freeTxn (hR:Rep A σ w) (s:Nat) (t:Txn) (ht:σ.txns.getD s none=some t) (link head at_ id:Nat) (hv0:link=0∨VL σ link) (hid:id≤65535) (hpl:σ.place id<σ.words.length) (hw:σ.word (σ.place id)<18446744073709551616) (hp:PoolOk σ) (hcnt:σ.count<4000000000000000000)
 (b0 b1 b2 b3 b4 b5:Nat) (B0:Box A.L w b0 (.pointer (some ⟨A.be,0,none⟩))) (B1:StampBox A.L w b1 id) (B2:Box A.L w b2 (.pointer (some ⟨A.bt s,0,none⟩))) (B3:NextBox (kp A σ s) A.L w b3 link head at_) (B4:Box A.L w b4 (.pointer (some ⟨A.bc s,0,none⟩))) (B5:Box A.L w b5 (zu (link:Int))):
 Calls Tryz.prog 175 #[.pointer (some ⟨b0,0,none⟩),.pointer (some ⟨b1,0,none⟩),.pointer (some ⟨b2,0,none⟩),.pointer (some ⟨b3,0,none⟩),.pointer (some ⟨b4,0,none⟩),.pointer (some ⟨b5,0,none⟩)] w (Ran A w s (σ.run s (.freeTxn link head at_ id))):=by
 obtain⟨_,S1⟩:=B1;obtain⟨nv,X3,m0,m1,m2,m3,m4,m5,hnv,N0,N1,N2,N3,N4,N5⟩:=B3;have c0:=B0.cell;have c1:=S1.cell 1 (v:=zu (id:Int)) rfl;have e2:=hR.z2;have HP:=zH (place_still hR.drew id hid);have HL:=zH (load_any hR.drew (σ.place id) hpl hcnt);have HU:=zH (fun w'=>unpack_any (σ.word (σ.place id)) hw w');have n1:IntKind.i64.wrap (id:Int)=(id:Int):=by rw[IntKind.wrap_i64];omega
 have HG:=zG A.L w;have HK:Hid (∀ w',Kp A w w'→w'.cell? ⟨b0,0,none⟩=some (.pointer (some ⟨A.be,0,none⟩))∧w'.cell? ⟨b1,1,none⟩=some (zu (id:Int))∧w'.cell? ⟨A.be,2,none⟩=some (.pointer (some ⟨A.ba,0,none⟩))):=by
  obtain⟨_,x0⟩:=B0;exact fun w' k=>⟨k.fix _ _ _ x0.1 c0,k.fix _ _ _ S1.1 c1,k.ea⟩
 have HB : Hid (∀ w1, Rep A σ.tick w1 → Grow A.L w A.L w1 → w1.cell? ⟨b0, 0, none⟩ = some (.pointer (some ⟨A.be, 0, none⟩)) ∧ w1.cell? ⟨b2, 0, none⟩ = some (.pointer (some ⟨A.bt s, 0, none⟩)) ∧ w1.cell? ⟨b3, 0, none⟩ = some nv ∧ w1.cell? ⟨b4, 0, none⟩ = some (.pointer (some ⟨A.bc s, 0, none⟩)) ∧ w1.cell? ⟨b5, 0, none⟩ = some (zu (link : Int)) ∧ w1.cell? ⟨A.bt s, 3, none⟩ = some (zu (t.begin_ : Int)) ∧
     (∀ w1,Rep A σ.tick w1→Calls Tryz.prog 174 #[.pointer (some ⟨A.be,0,none⟩),.pointer (some ⟨A.bt s,0,none⟩),.pointer (some ⟨A.bc s,0,none⟩),zu (link:Int)] w1 (Tells A w1 s (σ.tick.lost link)))):=by
  intro w1 q1 q2;have g:=q2;exact⟨(B0.grow g).cell,(B2.grow g).cell,(X3.grow g).cell,(B4.grow g).cell,(B5.grow g).cell,q1.txn ht 3 rfl,fun w3 q3=>lost_any q3 s link (hv0.imp (fun h=>h) fun h=>⟨h.lo,h.hi,h.u⟩) ⟨hp.n,hp.free,hp.tag,hp.worn⟩⟩
 have HN:=zH (zA N0 (zA N1 (zA N2 (zA N3 (zA N4 N5)))));have hrun:σ.run s (.freeTxn link head at_ id)=if stateOf (σ.word (σ.place id))=4∨(0<endOf (σ.word (σ.place id))∧endOf (σ.word (σ.place id))≤t.begin_) then (σ.tick,some (.next link head at_)) else ((σ.tick.lost link).1,some (σ.tick.lost link).2):=by
  have e:(σ.tick.t s)=t:=txn_get ht;simp only[St.run,e]
 rw[hrun];clear hR ht hv0 hid hpl hw hp hcnt B0 S1 B2 X3 B4 B5 N0 N1 N2 N3 N4 N5 hrun;subst hnv;generalize σ.word (σ.place id)=x at*;generalize hst:stateOf x=st at*;generalize hen:endOf x=en at*;generalize t.begin_=bg at*;clear hst hen
 by_cases h4:st=4
 · rw[if_pos (Or.inl h4)]
   subst h4;go_enter Tryz.func175,Tryz.ntmps175;go_wp2_with fail
   go_region_held3 (fun w'=>w'.cell? ⟨b0,0,none⟩=some (.pointer (some ⟨A.be,0,none⟩))∧w'.cell? ⟨b1,1,none⟩=some (zu (id:Int))∧w'.cell? ⟨A.be,2,none⟩=some (.pointer (some ⟨A.ba,0,none⟩)))
    (first|exact⟨c0,c1,e2⟩|assumption|exact HK.out _ (Kp.of (by assumption) (by assumption) (by assumption)))
    (first|(go_at_call 48;refine HP.out.mono ?_;rintro e w' ⟨rfl,rfl⟩)|(go_at_call 42;refine HL.out.mono ?_;rintro e w1 ⟨rfl,q1,q2⟩;have q4:=HG.out.trans q2;have q3:=Stay.refl A s;clear q2)|(go_at_call 109;refine (HU.out _).mono ?_;rintro e w' ⟨rfl,rfl⟩))
   obtain⟨d0,d2,d3,d4,d5,d6,hk⟩:=HB.out _ (by assumption) (by assumption);have HQ:=zH (zA (‹Rep A σ.tick _›) (zA (‹Grow A.L w A.L _›) hk));clear hk;go_wp2_with fail;go_ret;obtain⟨q1,g1,_⟩:=HQ.out;exact⟨A,_,rfl,q1,g1,Stay.refl _ _,_,_,_,_,_,_,rfl,(HN.out.1).grow g1,(HN.out.2.1).grow g1,(HN.out.2.2.1).grow g1,(HN.out.2.2.2.1).grow g1,(HN.out.2.2.2.2.1).grow g1,(HN.out.2.2.2.2.2).grow g1⟩
 · have a1:((st:Int)==4)=false:=by simp;omega
   have a2:((st:Int)=4)=False:=by simp;omega
   by_cases h0:en=0
   · rw[if_neg (by omega)]
     have a3:decide ((0:Int)<(en:Int))=false:=by simp;omega
     have a4:((0:Int)<(en:Int))=False:=by simp;omega
     have a4n:(0<en)=False:=by simp;omega
     clear h4 h0;go_enter Tryz.func175,Tryz.ntmps175;go_wp2_with fail
     go_region_held3 (fun w'=>w'.cell? ⟨b0,0,none⟩=some (.pointer (some ⟨A.be,0,none⟩))∧w'.cell? ⟨b1,1,none⟩=some (zu (id:Int))∧w'.cell? ⟨A.be,2,none⟩=some (.pointer (some ⟨A.ba,0,none⟩)))
      (first|exact⟨c0,c1,e2⟩|assumption|exact HK.out _ (Kp.of (by assumption) (by assumption) (by assumption)))
      (first|(go_at_call 48;refine HP.out.mono ?_;rintro e w' ⟨rfl,rfl⟩)|(go_at_call 42;refine HL.out.mono ?_;rintro e w1 ⟨rfl,q1,q2⟩;have q4:=HG.out.trans q2;have q3:=Stay.refl A s;clear q2)|(go_at_call 109;refine (HU.out _).mono ?_;rintro e w' ⟨rfl,rfl⟩))
     obtain⟨d0,d2,d3,d4,d5,d6,hk⟩:=HB.out _ (by assumption) (by assumption);have HQ:=zH (zA (‹Rep A σ.tick _›) (zA (‹Grow A.L w A.L _›) hk));clear hk;go_wp2_with (go_at_call 174;refine (HQ.out.2.2 _ HQ.out.1).mono ?_;rintro e w2 ⟨A2,v,rfl,p1,p2,p3,p4⟩);go_ret;exact⟨A2,v,rfl,p1,HQ.out.2.1.trans p2,p3,p4⟩
   · have a3:decide ((0:Int)<(en:Int))=true:=by simp;omega
     have a4:((0:Int)<(en:Int))=True:=by simp;omega
     have a4n:(0<en)=True:=by simp;omega
     by_cases hb:en≤bg
     · rw[if_pos (by omega)]
       have a5:decide ((en:Int)≤(bg:Int))=true:=by simp;omega
       have a6:((en:Int)≤(bg:Int))=True:=by simp;omega
       have a6n:(en≤bg)=True:=by simp;omega
       clear h4 h0 hb;go_enter Tryz.func175,Tryz.ntmps175;go_wp2_with fail
       go_region_held3 (fun w'=>w'.cell? ⟨b0,0,none⟩=some (.pointer (some ⟨A.be,0,none⟩))∧w'.cell? ⟨b1,1,none⟩=some (zu (id:Int))∧w'.cell? ⟨A.be,2,none⟩=some (.pointer (some ⟨A.ba,0,none⟩)))
        (first|exact⟨c0,c1,e2⟩|assumption|exact HK.out _ (Kp.of (by assumption) (by assumption) (by assumption)))
        (first|(go_at_call 48;refine HP.out.mono ?_;rintro e w' ⟨rfl,rfl⟩)|(go_at_call 42;refine HL.out.mono ?_;rintro e w1 ⟨rfl,q1,q2⟩;have q4:=HG.out.trans q2;have q3:=Stay.refl A s;clear q2)|(go_at_call 109;refine (HU.out _).mono ?_;rintro e w' ⟨rfl,rfl⟩))
       obtain⟨d0,d2,d3,d4,d5,d6,hk⟩:=HB.out _ (by assumption) (by assumption);have HQ:=zH (zA (‹Rep A σ.tick _›) (zA (‹Grow A.L w A.L _›) hk));clear hk;go_wp2_with fail;go_ret;obtain⟨q1,g1,_⟩:=HQ.out;exact⟨A,_,rfl,q1,g1,Stay.refl _ _,_,_,_,_,_,_,rfl,(HN.out.1).grow g1,(HN.out.2.1).grow g1,(HN.out.2.2.1).grow g1,(HN.out.2.2.2.1).grow g1,(HN.out.2.2.2.2.1).grow g1,(HN.out.2.2.2.2.2).grow g1⟩
     · rw[if_neg (by omega)]
       have a5:decide ((en:Int)≤(bg:Int))=false:=by simp;omega
       have a6:((en:Int)≤(bg:Int))=False:=by simp;omega
       have a6n:(en≤bg)=False:=by simp;omega
       clear h4 h0 hb;go_enter Tryz.func175,Tryz.ntmps175;go_wp2_with fail
       go_region_held3 (fun w'=>w'.cell? ⟨b0,0,none⟩=some (.pointer (some ⟨A.be,0,none⟩))∧w'.cell? ⟨b1,1,none⟩=some (zu (id:Int))∧w'.cell? ⟨A.be,2,none⟩=some (.pointer (some ⟨A.ba,0,none⟩)))
        (first|exact⟨c0,c1,e2⟩|assumption|exact HK.out _ (Kp.of (by assumption) (by assumption) (by assumption)))
        (first|(go_at_call 48;refine HP.out.mono ?_;rintro e w' ⟨rfl,rfl⟩)|(go_at_call 42;refine HL.out.mono ?_;rintro e w1 ⟨rfl,q1,q2⟩;have q4:=HG.out.trans q2;have q3:=Stay.refl A s;clear q2)|(go_at_call 109;refine (HU.out _).mono ?_;rintro e w' ⟨rfl,rfl⟩))
       obtain⟨d0,d2,d3,d4,d5,d6,hk⟩:=HB.out _ (by assumption) (by assumption);have HQ:=zH (zA (‹Rep A σ.tick _›) (zA (‹Grow A.L w A.L _›) hk));clear hk;go_wp2_with (go_at_call 174;refine (HQ.out.2.2 _ HQ.out.1).mono ?_;rintro e w2 ⟨A2,v,rfl,p1,p2,p3,p4⟩);go_ret;exact⟨A2,v,rfl,p1,HQ.out.2.1.trans p2,p3,p4⟩
def ThnTo (σ:St) (s:Nat) (hu:Hunt) (link:Nat):Prop:=∀ A w,Rep A σ w→A.mp=0→ThnAt A w σ s hu link
theorem k_older (hR:Rep A σ w) (s:Nat) (hmp:A.mp=0) (hu:Hunt) (link b0 b1:Nat) (B0:HuntBox (kp A σ s) A.L w b0 hu) (B1:Box A.L w b1 (zu (link:Int))) (hv:VL σ link) (hcnt:σ.count<4000000000000000000) (HT:σ.word (wslot link 2)=0→ThnTo σ.tick s hu 0):
 Calls Tryz.prog 213 #[.pointer (some ⟨b0,0,none⟩),.pointer (some ⟨b1,0,none⟩)] w (Ran A w s (σ.run s (.older hu link))):=by
 have hsl:=hR.sl;obtain⟨bh,X0,hh0⟩:=B0;obtain⟨vt,TT,fh,hth⟩:=id hh0;have c0:=X0.cell;have c1:=B1.cell;have h0:w.cell? ⟨bh,0,none⟩=some (.pointer (some ⟨A.be,0,none⟩)):=fh.cell 0 rfl;have e2:=hR.z2;have HK:Hid (∀ w',Kp A w w'→w'.cell? ⟨b0,0,none⟩=some (.pointer (some ⟨bh,0,none⟩))∧w'.cell? ⟨b1,0,none⟩=some (zu (link:Int))∧w'.cell? ⟨bh,0,none⟩=some (.pointer (some ⟨A.be,0,none⟩))∧w'.cell? ⟨A.be,2,none⟩=some (.pointer (some ⟨A.ba,0,none⟩))):=by
  obtain⟨_,x0⟩:=X0;obtain⟨_,x1⟩:=B1;exact fun w' k=>⟨k.fix _ _ _ x0.1 c0,k.fix _ _ _ x1.1 c1,k.fix _ _ _ fh.1 h0,k.ea⟩
 have HS:=zH (slot_at link 2 2 rfl hv.lo (by have:=hv.hi;omega) hv.u (by omega));have HL:=zH (load_any hR.drew (wslot link 2) (wslot_lt hR hv.lo hv.hi (by omega)) hcnt);have HG:=zG A.L w;have HB:Hid (∀ w1,Rep A σ.tick w1→Grow A.L w A.L w1→Calls Tryz.prog 162 #[.pointer (some ⟨bh,0,none⟩),zu (σ.word (wslot link 2):Int)] w1 (Tells A w1 s (σ.tick.visit s hu (σ.word (wslot link 2))))):=
  fun w1 r g=>visit_any r s bh hu (hh0.grow g) _ fun hz=>HT hz A w1 r hmp
 have hrun:σ.run s (.older hu link)=((σ.tick.visit s hu (σ.word (wslot link 2))).1,some (σ.tick.visit s hu (σ.word (wslot link 2))).2):=rfl;rw[hrun];clear hR hh0 fh hth hv hcnt HT hrun X0 B1 hsl hmp;generalize σ.tick.visit s hu (σ.word (wslot link 2))=res at*;generalize σ.word (wslot link 2)=nx at*;go_enter Tryz.func213,Tryz.ntmps213;go_wp2_with fail
 go_region_held3 (fun w'=>w'.cell? ⟨b0,0,none⟩=some (.pointer (some ⟨bh,0,none⟩))∧w'.cell? ⟨b1,0,none⟩=some (zu (link:Int))∧w'.cell? ⟨bh,0,none⟩=some (.pointer (some ⟨A.be,0,none⟩))∧w'.cell? ⟨A.be,2,none⟩=some (.pointer (some ⟨A.ba,0,none⟩)))
  (first|exact⟨c0,c1,h0,e2⟩|assumption|exact HK.out _ (Kp.of (by assumption) (by assumption) (by assumption)))
  (first|(go_at_call 85;refine (HS.out _).mono ?_;rintro e w' ⟨rfl,rfl⟩)|(go_at_call 42;refine HL.out.mono ?_;rintro e w1 ⟨rfl,q1,q2⟩;have q4:=HG.out.trans q2;have q3:=Stay.refl A s;clear q2)|(go_at_call 162;refine (HB.out _ (by assumption) (by assumption)).mono ?_;rintro e w2 ⟨A',v,rfl,p1,p2,p3,p4⟩;have p5:=(‹Grow A.L w A.L _›).trans p2))
 go_wp2_with fail;go_ret;exact⟨A',_,rfl,p1,p5,p3,p4⟩
theorem k_maker (hR:Rep A σ w) (s:Nat) (hu:Hunt) (link id b0 b1 b2:Nat) (B0:HuntBox (kp A σ s) A.L w b0 hu) (B1:Box A.L w b1 (zi (id:Int))) (B2:Box A.L w b2 (zu (link:Int))) (hid:id≤65535) (hpl:σ.place id<σ.words.length) (hw:σ.word (σ.place id)<18446744073709551616) (hcnt:σ.count<4000000000000000000):
 Calls Tryz.prog 202 #[.pointer (some ⟨b0,0,none⟩),.pointer (some ⟨b1,0,none⟩),.pointer (some ⟨b2,0,none⟩)] w (Ran A w s (σ.run s (.maker hu link id))):=by
 obtain⟨bh,X0,hh0⟩:=B0;obtain⟨vt,TT,fh,hth⟩:=_root_.id hh0;have c0:=X0.cell;have c1:=B1.cell;have h0:w.cell? ⟨bh,0,none⟩=some (.pointer (some ⟨A.be,0,none⟩)):=fh.cell 0 rfl;have e2:=hR.z2;have HK:Hid (∀ w',Kp A w w'→w'.cell? ⟨b0,0,none⟩=some (.pointer (some ⟨bh,0,none⟩))∧w'.cell? ⟨b1,0,none⟩=some (zi (id:Int))∧w'.cell? ⟨bh,0,none⟩=some (.pointer (some ⟨A.be,0,none⟩))∧w'.cell? ⟨A.be,2,none⟩=some (.pointer (some ⟨A.ba,0,none⟩))):=by
  obtain⟨_,x0⟩:=X0;obtain⟨_,x1⟩:=B1;exact fun w' k=>⟨k.fix _ _ _ x0.1 c0,k.fix _ _ _ x1.1 c1,k.fix _ _ _ fh.1 h0,k.ea⟩
 have HP:=zH (place_still hR.drew id hid);have HL:=zH (load_any hR.drew (σ.place id) hpl hcnt);have HU:=zH (fun w'=>unpack_any (σ.word (σ.place id)) hw w');have HG:=zG A.L w;have HB:Hid (∀ w1,Rep A σ.tick w1→Grow A.L w A.L w1→w1.cell? ⟨b0,0,none⟩=some (.pointer (some ⟨bh,0,none⟩))∧w1.cell? ⟨b1,0,none⟩=some (zi (id:Int))∧w1.cell? ⟨b2,0,none⟩=some (zu (link:Int))∧w1.cell? ⟨bh,3,none⟩=some (zu (hu.at_:Int))∧HuntAt (kp A σ.tick s) A.L w1 bh hu):=by
  intro w1 q g;have k:HuntAt (kp A σ.tick s) A.L w1 bh hu:=hh0.grow g;exact⟨(X0.grow g).cell,(B1.grow g).cell,(B2.grow g).cell,(fh.grow g).cell 3 rfl,k⟩
 have hrun:σ.run s (.maker hu link id)=(σ.tick,some (if endOf (σ.word (σ.place id))=0∨hu.at_<endOf (σ.word (σ.place id))∨stateOf (σ.word (σ.place id))=4 then .older hu link else if stateOf (σ.word (σ.place id))=2 then .ended hu link id else .ended hu link 0)):=by
  simp only[St.run];split<;>(try split)<;>rfl
 rw[hrun];have HOld:Hid (∀ w1,Rep A σ.tick w1→Grow A.L w A.L w1→Calls Tryz.prog 201 #[.pointer (some ⟨bh,0,none⟩),zu (link:Int)] w1 (Tells A w1 s (σ.tick,.older hu link))):=fun w1 q g=>older_any q s bh hu (show HuntAt (kp A σ.tick s) A.L w1 bh hu from hh0.grow g) link
 have HEnd:Hid (∀ w1,Rep A σ.tick w1→Grow A.L w A.L w1→Calls Tryz.prog 200 #[.pointer (some ⟨bh,0,none⟩),zu (link:Int),zi (id:Int)] w1 (Tells A w1 s (σ.tick,.ended hu link id))):=fun w1 q g=>ended_any q s bh hu (show HuntAt (kp A σ.tick s) A.L w1 bh hu from hh0.grow g) link id
 have HEnd0:Hid (∀ w1,Rep A σ.tick w1→Grow A.L w A.L w1→Calls Tryz.prog 200 #[.pointer (some ⟨bh,0,none⟩),zu (link:Int),zi 0] w1 (Tells A w1 s (σ.tick,.ended hu link 0))):=fun w1 q g=>ended_any q s bh hu (show HuntAt (kp A σ.tick s) A.L w1 bh hu from hh0.grow g) link 0
 clear hR hid hpl hw hcnt X0 B1 B2 fh hth hh0 hrun;generalize σ.word (σ.place id)=x at*;generalize hst:stateOf x=st at*;generalize hen:endOf x=en at*;generalize hu.at_=ha at*;clear hst hen
 by_cases h0e:en=0
 · rw[if_pos (Or.inl h0e)]
   obtain⟨fa1,fa2,fa3,fa4,fa5⟩:=zeT (x:=en) (c:=0) (ci:=0) (by omega);clear h0e;go_enter Tryz.func202,Tryz.ntmps202;go_wp2_with fail
   go_region_held3 (fun w'=>w'.cell? ⟨b0,0,none⟩=some (.pointer (some ⟨bh,0,none⟩))∧w'.cell? ⟨b1,0,none⟩=some (zi (id:Int))∧w'.cell? ⟨bh,0,none⟩=some (.pointer (some ⟨A.be,0,none⟩))∧w'.cell? ⟨A.be,2,none⟩=some (.pointer (some ⟨A.ba,0,none⟩)))
    (first|exact⟨c0,c1,h0,e2⟩|assumption|exact HK.out _ (Kp.of (by assumption) (by assumption) (by assumption)))
    (first|(go_at_call 48;refine HP.out.mono ?_;rintro e w' ⟨rfl,rfl⟩)|(go_at_call 42;refine HL.out.mono ?_;rintro e w1 ⟨rfl,q1,q2⟩;have q4:=HG.out.trans q2;have q3:=Stay.refl A s;clear q2)|(go_at_call 109;refine (HU.out _).mono ?_;rintro e w' ⟨rfl,rfl⟩))
   obtain⟨d0,d1,d2,d3,hk⟩:=HB.out _ (by assumption) (by assumption);have HQ:=zH (zA (‹Rep A σ.tick _›) (zA (‹Grow A.L w A.L _›) hk));clear hk;go_wp2_with (go_at_call 201;refine (HOld.out _ HQ.out.1 HQ.out.2.1).mono ?_;rintro e w2 ⟨A2,v,rfl,p1,p2,p3,p4⟩);go_ret;exact⟨A2,v,rfl,p1,HQ.out.2.1.trans p2,p3,p4⟩
 · have fa1:((en:Int)==0)=false:=by simp<;>omega
   have fa2:((en:Int)=0)=False:=by simp<;>omega
   have fa3:(en=0)=False:=by simp<;>omega
   have fa4:(en==0)=false:=by simp<;>omega
   have fa5:((en:Int) !=0)=true:=by simp<;>omega
   by_cases hlt:ha<en
   · rw[if_pos (Or.inr (Or.inl hlt))]
     obtain⟨fb1,fb2,fb3,fb4⟩:=zlt (x:=ha) (c:=en) (xi:=(ha:Int)) (ci:=(en:Int)) (by omega);clear h0e hlt;go_enter Tryz.func202,Tryz.ntmps202;go_wp2_with fail
     go_region_held3 (fun w'=>w'.cell? ⟨b0,0,none⟩=some (.pointer (some ⟨bh,0,none⟩))∧w'.cell? ⟨b1,0,none⟩=some (zi (id:Int))∧w'.cell? ⟨bh,0,none⟩=some (.pointer (some ⟨A.be,0,none⟩))∧w'.cell? ⟨A.be,2,none⟩=some (.pointer (some ⟨A.ba,0,none⟩)))
      (first|exact⟨c0,c1,h0,e2⟩|assumption|exact HK.out _ (Kp.of (by assumption) (by assumption) (by assumption)))
      (first|(go_at_call 48;refine HP.out.mono ?_;rintro e w' ⟨rfl,rfl⟩)|(go_at_call 42;refine HL.out.mono ?_;rintro e w1 ⟨rfl,q1,q2⟩;have q4:=HG.out.trans q2;have q3:=Stay.refl A s;clear q2)|(go_at_call 109;refine (HU.out _).mono ?_;rintro e w' ⟨rfl,rfl⟩))
     obtain⟨d0,d1,d2,d3,hk⟩:=HB.out _ (by assumption) (by assumption);have HQ:=zH (zA (‹Rep A σ.tick _›) (zA (‹Grow A.L w A.L _›) hk));clear hk;go_wp2_with (go_at_call 201;refine (HOld.out _ HQ.out.1 HQ.out.2.1).mono ?_;rintro e w2 ⟨A2,v,rfl,p1,p2,p3,p4⟩);go_ret;exact⟨A2,v,rfl,p1,HQ.out.2.1.trans p2,p3,p4⟩
   · have fb1:decide ((ha:Int)<(en:Int))=false:=by simp<;>omega
     have fb2:((ha:Int)<(en:Int))=False:=by simp<;>omega
     have fb3:(ha<en)=False:=by simp<;>omega
     have fb4:decide (ha<en)=false:=by simp<;>omega
     by_cases h4:st=4
     · rw[if_pos (Or.inr (Or.inr h4))]
       obtain⟨fc1,fc2,fc3,fc4,fc5⟩:=zeT (x:=st) (c:=4) (ci:=4) (by omega);clear h0e hlt h4;go_enter Tryz.func202,Tryz.ntmps202;go_wp2_with fail
       go_region_held3 (fun w'=>w'.cell? ⟨b0,0,none⟩=some (.pointer (some ⟨bh,0,none⟩))∧w'.cell? ⟨b1,0,none⟩=some (zi (id:Int))∧w'.cell? ⟨bh,0,none⟩=some (.pointer (some ⟨A.be,0,none⟩))∧w'.cell? ⟨A.be,2,none⟩=some (.pointer (some ⟨A.ba,0,none⟩)))
        (first|exact⟨c0,c1,h0,e2⟩|assumption|exact HK.out _ (Kp.of (by assumption) (by assumption) (by assumption)))
        (first|(go_at_call 48;refine HP.out.mono ?_;rintro e w' ⟨rfl,rfl⟩)|(go_at_call 42;refine HL.out.mono ?_;rintro e w1 ⟨rfl,q1,q2⟩;have q4:=HG.out.trans q2;have q3:=Stay.refl A s;clear q2)|(go_at_call 109;refine (HU.out _).mono ?_;rintro e w' ⟨rfl,rfl⟩))
       obtain⟨d0,d1,d2,d3,hk⟩:=HB.out _ (by assumption) (by assumption);have HQ:=zH (zA (‹Rep A σ.tick _›) (zA (‹Grow A.L w A.L _›) hk));clear hk;go_wp2_with (go_at_call 201;refine (HOld.out _ HQ.out.1 HQ.out.2.1).mono ?_;rintro e w2 ⟨A2,v,rfl,p1,p2,p3,p4⟩);go_ret;exact⟨A2,v,rfl,p1,HQ.out.2.1.trans p2,p3,p4⟩
     · rw[if_neg (by omega)]
       obtain⟨fc1,fc2,fc3,fc4,fc5⟩:=zeF (x:=st) (c:=4) (ci:=4) (by omega)
       by_cases h2:st=2
       · rw[if_pos h2]
         obtain⟨fd1,fd2,fd3,fd4,fd5⟩:=zeT (x:=st) (c:=2) (ci:=2) (by omega);clear h0e hlt h4 h2;go_enter Tryz.func202,Tryz.ntmps202;go_wp2_with fail
         go_region_held3 (fun w'=>w'.cell? ⟨b0,0,none⟩=some (.pointer (some ⟨bh,0,none⟩))∧w'.cell? ⟨b1,0,none⟩=some (zi (id:Int))∧w'.cell? ⟨bh,0,none⟩=some (.pointer (some ⟨A.be,0,none⟩))∧w'.cell? ⟨A.be,2,none⟩=some (.pointer (some ⟨A.ba,0,none⟩)))
          (first|exact⟨c0,c1,h0,e2⟩|assumption|exact HK.out _ (Kp.of (by assumption) (by assumption) (by assumption)))
          (first|(go_at_call 48;refine HP.out.mono ?_;rintro e w' ⟨rfl,rfl⟩)|(go_at_call 42;refine HL.out.mono ?_;rintro e w1 ⟨rfl,q1,q2⟩;have q4:=HG.out.trans q2;have q3:=Stay.refl A s;clear q2)|(go_at_call 109;refine (HU.out _).mono ?_;rintro e w' ⟨rfl,rfl⟩))
         obtain⟨d0,d1,d2,d3,hk⟩:=HB.out _ (by assumption) (by assumption);have HQ:=zH (zA (‹Rep A σ.tick _›) (zA (‹Grow A.L w A.L _›) hk));clear hk;go_wp2_with (go_at_call 200;refine (HEnd.out _ HQ.out.1 HQ.out.2.1).mono ?_;rintro e w2 ⟨A2,v,rfl,p1,p2,p3,p4⟩);go_ret;exact⟨A2,v,rfl,p1,HQ.out.2.1.trans p2,p3,p4⟩
       · rw[if_neg h2]
         obtain⟨fd1,fd2,fd3,fd4,fd5⟩:=zeF (x:=st) (c:=2) (ci:=2) (by omega);clear h0e hlt h4 h2;go_enter Tryz.func202,Tryz.ntmps202;go_wp2_with fail
         go_region_held3 (fun w'=>w'.cell? ⟨b0,0,none⟩=some (.pointer (some ⟨bh,0,none⟩))∧w'.cell? ⟨b1,0,none⟩=some (zi (id:Int))∧w'.cell? ⟨bh,0,none⟩=some (.pointer (some ⟨A.be,0,none⟩))∧w'.cell? ⟨A.be,2,none⟩=some (.pointer (some ⟨A.ba,0,none⟩)))
          (first|exact⟨c0,c1,h0,e2⟩|assumption|exact HK.out _ (Kp.of (by assumption) (by assumption) (by assumption)))
          (first|(go_at_call 48;refine HP.out.mono ?_;rintro e w' ⟨rfl,rfl⟩)|(go_at_call 42;refine HL.out.mono ?_;rintro e w1 ⟨rfl,q1,q2⟩;have q4:=HG.out.trans q2;have q3:=Stay.refl A s;clear q2)|(go_at_call 109;refine (HU.out _).mono ?_;rintro e w' ⟨rfl,rfl⟩))
         obtain⟨d0,d1,d2,d3,hk⟩:=HB.out _ (by assumption) (by assumption);have HQ:=zH (zA (‹Rep A σ.tick _›) (zA (‹Grow A.L w A.L _›) hk));clear hk;go_wp2_with (go_at_call 200;refine (HEnd0.out _ HQ.out.1 HQ.out.2.1).mono ?_;rintro e w2 ⟨A2,v,rfl,p1,p2,p3,p4⟩);go_ret;exact⟨A2,v,rfl,p1,HQ.out.2.1.trans p2,p3,p4⟩
end Go.Proofs.YthicolbbmjfkfaaGreat.Em
