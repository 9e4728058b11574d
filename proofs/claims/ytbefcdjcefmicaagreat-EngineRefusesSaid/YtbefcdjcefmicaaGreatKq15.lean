import Derived.Test.YtbefcdjcefmicaaGreatKq13
namespace Go.Proofs.YtbefcdjcefmicaaGreat.Em
open Go.ChangeShapes Go.WideShapes Go.ChangeAt Go.RowKit En
set_option linter.unusedVariables false
set_option linter.unusedSimpArgs false
set_option maxRecDepth 100000
set_option maxHeartbeats 1600000
def Book.tmp (A:Book) (b:Nat):Book:={A with L:=lab1 A.L b .tmp}
theorem mem_tmp (A:Book) (σ:St) (b:Nat) (q:Role):memOf (A.tmp b) σ q=memOf A σ q:=by cases q<;>rfl
theorem Rep.newTmp {A:Book} {σ:St} {w:World} (h:Rep A σ w) (o:Obj):Rep (A.tmp w.heap.size) σ (w.alloc o)∧Grow A.L w (A.tmp w.heap.size).L (w.alloc o)∧(A.tmp w.heap.size).L w.heap.size=some .tmp∧(w.alloc o).heap[w.heap.size]? =some o:=by
 have g:Grow A.L w (A.tmp w.heap.size).L (w.alloc o):=(Grow.alloc A.L w o).lab1 (Nat.le_refl _) _;refine⟨⟨⟨fun r=>?_,fun b hb=>?_⟩,h.ev.grow g,h.sl,h.nw,h.nt,h.nv,h.n8,h.nc⟩,g,lab1_same _ _ _,heap_alloc_new w o⟩
 · rw[mem_tmp]
   exact (h.mem.all r).frame (fun b hb _=>Below.heap_alloc w o b hb) (fun b hb=>lab1_other (by omega))
 · have:w.heap.size+1≤b:=by simpa using hb
   show lab1 A.L w.heap.size .tmp b=none;rw[lab1_other (by omega)];exact h.mem.fresh b (by omega)
theorem tmp_grow {L L':Lab} {w w':World} {b:Nat} {o:Obj} (h:L b=some .tmp∧w.heap[b]? =some o) (g:Grow L w L' w'):L' b=some .tmp∧w'.heap[b]? =some o:=⟨(g.lab b (lt_of h.2)).trans h.1,(g.keep b (lt_of h.2) h.1).trans h.2⟩
structure But (b:Nat) (w w':World):Prop where
 os:w'.os=w.os
 tape:w'.tape=w.tape
 output:w'.output=w.output
 size:w'.heap.size=w.heap.size
 block:∀ k,k≠b→w'.heap[k]? =w.heap[k]?
theorem But.setCell (w:World) (a:Addr) (v:Value):But a.block w (w.setCell a v):=⟨rfl,rfl,rfl,by simp[World.setCell],fun k hk=>Below.heap_setCell _ _ _ _ hk⟩
theorem But.trans {b:Nat} {w w1 w2:World} (h:But b w w1) (k:But b w1 w2):But b w w2:=⟨k.os.trans h.os,k.tape.trans h.tape,k.output.trans h.output,k.size.trans h.size,fun j hj=>(k.block j hj).trans (h.block j hj)⟩
theorem But.setCells (b:Nat):∀ (vs:List Value) (o:Nat) (w:World),But b w (w.setCells b o vs)
 |[],_,w=>⟨rfl,rfl,rfl,rfl,fun _ _=>rfl⟩
 |v::vs,o,w=>(But.setCell w ⟨b,o,none⟩ v).trans (But.setCells b vs (o+1) (w.setCell ⟨b,o,none⟩ v))
section
variable {L:Lab} {w w':World} {b:Nat} (hl:L b=some .tmp) (h:But b w w')
include hl h
theorem FRow.but {size:Nat} {v:Value} {xs:List Value} (f:FRow L w size v xs):FRow L w' size v xs:=by
 obtain⟨ad,n,cap,rfl,e2,e3,e4,e5⟩:=f;refine⟨ad,n,cap,rfl,e2,e3,e4,?_⟩
 rcases e5 with h0|⟨g,off,rfl,e7,e8,e9⟩
 · exact .inl h0
 · refine .inr ⟨g,off,rfl,e7,by rw[h.size];exact e8,fun j hj=>?_⟩
   rw[World.cell?_of_block (w:=w) (a:=⟨g,off+j,none⟩) (h.block g (by rintro rfl;rw[hl] at e7;cases e7))];exact e9 j hj
theorem PRow.but {v:Value} {xs:List Value} (f:PRow L w v xs):PRow L w' v xs:=by
 refine⟨f.1.but hl h,fun g off n cap hv=>?_⟩
 rcases f.2 g off n cap hv with h0|⟨cs,hc⟩
 · exact .inl h0
 · by_cases hn:n=0
   · exact .inl hn
   · obtain⟨ad,n',cap',e1,e2,e3,e4,e5⟩:=f.1
     obtain⟨rfl,rfl,rfl⟩:ad=some ⟨g,off,none⟩∧n'=n∧cap'=cap:=by rw[hv] at e1;simp at e1;exact⟨e1.1.symm,e1.2.1.symm,e1.2.2.symm⟩
     obtain⟨g',off',e6,e7,_⟩:=e5.resolve_left hn;obtain⟨rfl,rfl⟩:g=g'∧off=off':=by simpa using e6
     exact .inr ⟨cs,(h.block g (by rintro rfl;rw[hl] at e7;cases e7)).trans hc⟩
theorem Evs.but:∀ {l:List Ev} {xs:List Value},Evs L w l xs→Evs L w' l xs
 |[],_,f=>f
 |_::_,_,⟨vp,ys,h1,h2,h3⟩=>⟨vp,ys,h1,h2.but hl h,Evs.but h3⟩
end
theorem Rep.but {A:Book} {σ:St} {w w':World} {b:Nat} (hR:Rep A σ w) (hl:A.L b=some .tmp) (h:But b w w'):Rep A σ w':=by
 refine⟨⟨fun r=>?_,fun k hk=>hR.mem.fresh k (by rw[←h.size];exact hk)⟩,hR.ev.but hl h,hR.sl,hR.nw,hR.nt,hR.nv,hR.n8,hR.nc⟩
 by_cases hr:r=.tmp
 · subst hr;trivial
 · refine (hR.mem.all r).frame (fun k hk hk'=>h.block k ?_) (fun _ _=>rfl)
   rintro rfl;rw[hl] at hk';exact hr (Option.some.inj hk').symm
theorem Grow.but {L L':Lab} {w w1 w2:World} {b:Nat} (g:Grow L w L' w1) (hb:w.heap.size≤b) (h:But b w1 w2):Grow L w L' w2:=
 ⟨h.os.trans g.os,h.tape.trans g.tape,h.output.trans g.output,by rw[h.size];exact g.size,fun k hk hl=>(h.block k (by omega)).trans (g.block k hk hl),g.lab,fun k hk hl=>(h.block k (by omega)).trans (g.keep k hk hl)⟩
structure Soft (L:Lab) (w:World) (L':Lab) (w':World):Prop where
 size:w.heap.size≤w'.heap.size
 block:∀ b,b<w.heap.size→L b=none→w'.heap[b]? =w.heap[b]?
 lab:∀ b,b<w.heap.size→L b=none→L' b=none
section
variable {p:KP} {L L':Lab} {w w':World}
theorem Fix.soft {b:Nat} {o:Obj} (h:Fix L w b o) (g:Soft L w L' w'):Fix L' w' b o:=⟨g.lab b (lt_of h.2) h.1,(g.block b (lt_of h.2) h.1).trans h.2⟩
theorem Box.soft {b:Nat} {v:Value} (h:Box L w b v) (g:Soft L w L' w'):Box L' w' b v:=let ⟨T,h⟩:=h;⟨T,h.soft g⟩
theorem FRow.soft {size:Nat} {v:Value} {xs:List Value} (h:FRow L w size v xs) (g:Soft L w L' w'):FRow L' w' size v xs:=by
 obtain⟨a,n,cap,h1,h2,h3,h4,h5⟩:=h;refine⟨a,n,cap,h1,h2,h3,h4,?_⟩
 rcases h5 with h5|⟨b,off,e1,e2,e3,e4⟩
 · exact .inl h5
 · refine .inr ⟨b,off,e1,g.lab b e3 e2,Nat.lt_of_lt_of_le e3 g.size,fun j hj=>?_⟩
   rw[World.cell?_of_block (w:=w) (a:=⟨b,off+j,none⟩) (g.block b e3 e2)];exact e4 j hj
theorem SRep.soft {e:Nat} {L L':Lab} {w w':World} {v:Value} (g:Soft L w L' w'):∀ {k:Option S},SRep e L w v k→SRep e L' w' v k
 |none,h=>h
 |some .now,h=>h
 |some (.live s),h=>let ⟨b0,b1,e,k0,k1⟩:=h;⟨b0,b1,e,k0.soft g,k1.soft g⟩
 |some (.head key),h=>let ⟨b0,b1,e,k0,k1⟩:=h;⟨b0,b1,e,k0.soft g,k1.soft g⟩
 |some (.visit key ahead link),h=>let ⟨b0,b1,b2,b3,e,k0,k1,k2,k3⟩:=h;⟨b0,b1,b2,b3,e,k0.soft g,k1.soft g,k2.soft g,k3.soft g⟩
 |some (.maker key ahead link id),h=>let ⟨b0,b1,b2,b3,b4,e,k0,k1,k2,k3,k4⟩:=h;⟨b0,b1,b2,b3,b4,e,k0.soft g,k1.soft g,k2.soft g,k3.soft g,k4.soft g⟩
 |some (.garbage key ahead link b),h=>let ⟨b0,b1,b2,b3,b4,e,k0,k1,k2,k3,k4⟩:=h;⟨b0,b1,b2,b3,b4,e,k0.soft g,k1.soft g,k2.soft g,k3.soft g,k4.soft g⟩
 |some (.on key link),h=>let ⟨b0,b1,b2,e,k0,k1,k2⟩:=h;⟨b0,b1,b2,e,k0.soft g,k1.soft g,k2.soft g⟩
 |some (.unlink key ahead link),h=>let ⟨b0,b1,b2,b3,e,k0,k1,k2,k3⟩:=h;⟨b0,b1,b2,b3,e,k0.soft g,k1.soft g,k2.soft g,k3.soft g⟩
 |some (.cut key ahead link nx),h=>let ⟨b0,b1,b2,b3,b4,e,k0,k1,k2,k3,k4⟩:=h;⟨b0,b1,b2,b3,b4,e,k0.soft g,k1.soft g,k2.soft g,k3.soft g,k4.soft g⟩
theorem SwRep.soft {A A':Book} {σ:St} {w w':World} (h:SwRep A σ w) (e:A'.bef=A.bef) (g:Soft A.L w A'.L w'):SwRep A' σ w':=
 ⟨by rw[bef_be e,bef_sv e];exact h.sw.soft g,h.cu.keep e⟩
theorem ResBox.soft {b:Nat} {r:Res} (h:ResBox p L w b r) (g:Soft L w L' w'):ResBox p L' w' b r:=let ⟨vp,T,h1,h2⟩:=h;⟨vp,T,h1.soft g,h2⟩
theorem StampBox.soft {b n:Nat} (h:StampBox L w b n) (g:Soft L w L' w'):StampBox L' w' b n:=let ⟨T,h1⟩:=h;⟨T,h1.soft g⟩
theorem SeenBox.soft {b n:Nat} (h:SeenBox L w b n) (g:Soft L w L' w'):SeenBox L' w' b n:=let ⟨T,k,q,h1⟩:=h;⟨T,k,q,h1.soft g⟩
theorem HeadBox.soft {b n:Nat} {x:Bool} (h:HeadBox L w b x n) (g:Soft L w L' w'):HeadBox L' w' b x n:=let ⟨v,h1,h2⟩:=h;⟨v,h1.soft g,h2.soft g⟩
theorem ListBox.soft {b:Nat} {l:List Trn} (h:ListBox L w b l) (g:Soft L w L' w'):ListBox L' w' b l:=let ⟨v,h1,h2⟩:=h;⟨v,h1.soft g,h2.soft g⟩
theorem TellBox.soft {b k:Nat} (h:TellBox p L w b k) (g:Soft L w L' w'):TellBox p L' w' b k:=let ⟨v,h1,c0,c1,e,k0,k1⟩:=h;⟨v,h1.soft g,c0,c1,e,k0.soft g,k1.soft g⟩
theorem NextBox.soft {b l1 l2 l3:Nat} (h:NextBox p L w b l1 l2 l3) (g:Soft L w L' w'):NextBox p L' w' b l1 l2 l3:=let ⟨v,h1,c0,c1,c2,c3,c4,c5,e,k0,k1,k2,k3,k4,k5⟩:=h;⟨v,h1.soft g,c0,c1,c2,c3,c4,c5,e,k0.soft g,k1.soft g,k2.soft g,k3.soft g,k4.soft g,k5.soft g⟩
theorem TurnBox.soft {b l1 l2:Nat} (h:TurnBox p L w b l1 l2) (g:Soft L w L' w'):TurnBox p L' w' b l1 l2:=let ⟨v,h1,c0,c1,c2,c3,c4,e,k0,k1,k2,k3,k4⟩:=h;⟨v,h1.soft g,c0,c1,c2,c3,c4,e,k0.soft g,k1.soft g,k2.soft g,k3.soft g,k4.soft g⟩
theorem ThnRep.soft {v:Value} {key:Nat} {t:Thn} (h:ThnRep p L w v key t) (g:Soft L w L' w'):ThnRep p L' w' v key t:=
 match t,h with
 |.get,hh=>let ⟨b0,b1,b2,b3,e,k0,k1,k2,k3⟩:=hh;⟨b0,b1,b2,b3,e,k0.soft g,k1.soft g,k2.soft g,k3.soft g⟩
 |.scan k,hh=>let ⟨b0,b1,b2,b3,b4,e,k0,k1,k2,k3,k4⟩:=hh;⟨b0,b1,b2,b3,b4,e,k0.soft g,k1.soft g,k2.soft g,k3.soft g,k4.soft g⟩
 |.change,hh=>let ⟨b0,b1,b2,b3,e,k0,k1,k2,k3⟩:=hh;⟨b0,b1,b2,b3,e,k0.soft g,k1.soft g,k2.soft g,k3.soft g⟩
 |.judge i l,hh=>let ⟨b0,b1,b2,b3,b4,e,k0,k1,k2,k3,k4⟩:=hh;⟨b0,b1,b2,b3,b4,e,k0.soft g,k1.soft g,k2.soft g,k3.soft g,k4.soft g⟩
theorem HuntAt.soft {b:Nat} {h:Hunt} (hh:HuntAt p L w b h) (g:Soft L w L' w'):HuntAt p L' w' b h:=let ⟨v,T,h1,h2⟩:=hh;⟨v,T,h1.soft g,h2.soft g⟩
theorem HuntBox.soft {b:Nat} {h:Hunt} (hh:HuntBox p L w b h) (g:Soft L w L' w'):HuntBox p L' w' b h:=let ⟨v,h1,h2⟩:=hh;⟨v,h1.soft g,h2.soft g⟩
theorem KRep.soft {v:Value} {k:K} (h:KRep p L w v k) (g:Soft L w L' w'):KRep p L' w' v k:=
 match k,h with
 |.start _,⟨bh,e,h1⟩=>⟨bh,e,h1.soft g⟩
 |.fin r,hh=>let ⟨b0,b1,b2,e,k0,k1,k2⟩:=hh;⟨b0,b1,b2,e,k0.soft g,k1.soft g,k2.soft g⟩
 |.visit h link,hh=>let ⟨b0,b1,e,k0,k1⟩:=hh;⟨b0,b1,e,k0.soft g,k1.soft g⟩
 |.older h link,hh=>let ⟨b0,b1,e,k0,k1⟩:=hh;⟨b0,b1,e,k0.soft g,k1.soft g⟩
 |.maker h link id,hh=>let ⟨b0,b1,b2,e,k0,k1,k2⟩:=hh;⟨b0,b1,b2,e,k0.soft g,k1.soft g,k2.soft g⟩
 |.ended h link mb,hh=>let ⟨b0,b1,b2,e,k0,k1,k2⟩:=hh;⟨b0,b1,b2,e,k0.soft g,k1.soft g,k2.soft g⟩
 |.ender h link mb id,hh=>let ⟨b0,b1,b2,b3,e,k0,k1,k2,k3⟩:=hh;⟨b0,b1,b2,b3,e,k0.soft g,k1.soft g,k2.soft g,k3.soft g⟩
 |.seen h link mb,hh=>let ⟨b0,b1,b2,e,k0,k1,k2⟩:=hh;⟨b0,b1,b2,e,k0.soft g,k1.soft g,k2.soft g⟩
 |.again end_,hh=>let ⟨b0,b1,b2,b3,e,k0,k1,k2,k3⟩:=hh;⟨b0,b1,b2,b3,e,k0.soft g,k1.soft g,k2.soft g,k3.soft g⟩
 |.own link,hh=>let ⟨b0,b1,b2,b3,e,k0,k1,k2,k3⟩:=hh;⟨b0,b1,b2,b3,e,k0.soft g,k1.soft g,k2.soft g,k3.soft g⟩
 |.ownTxn link w1 id,hh=>let ⟨b0,b1,b2,b3,b4,b5,e,k0,k1,k2,k3,k4,k5⟩:=hh;⟨b0,b1,b2,b3,b4,b5,e,k0.soft g,k1.soft g,k2.soft g,k3.soft g,k4.soft g,k5.soft g⟩
 |.claim link w1,hh=>let ⟨b0,b1,b2,b3,b4,e,k0,k1,k2,k3,k4⟩:=hh;⟨b0,b1,b2,b3,b4,e,k0.soft g,k1.soft g,k2.soft g,k3.soft g,k4.soft g⟩
 |.fresh link,hh=>let ⟨b0,b1,b2,b3,e,k0,k1,k2,k3⟩:=hh;⟨b0,b1,b2,b3,e,k0.soft g,k1.soft g,k2.soft g,k3.soft g⟩
 |.next link head at_,hh=>let ⟨b0,b1,b2,b3,b4,b5,e,k0,k1,k2,k3,k4,k5⟩:=hh;⟨b0,b1,b2,b3,b4,b5,e,k0.soft g,k1.soft g,k2.soft g,k3.soft g,k4.soft g,k5.soft g⟩
 |.free link head at_,hh=>let ⟨b0,b1,b2,b3,b4,b5,e,k0,k1,k2,k3,k4,k5⟩:=hh;⟨b0,b1,b2,b3,b4,b5,e,k0.soft g,k1.soft g,k2.soft g,k3.soft g,k4.soft g,k5.soft g⟩
 |.freeTxn link head at_ id,hh=>let ⟨b0,b1,b2,b3,b4,b5,e,k0,k1,k2,k3,k4,k5⟩:=hh;⟨b0,b1,b2,b3,b4,b5,e,k0.soft g,k1.soft g,k2.soft g,k3.soft g,k4.soft g,k5.soft g⟩
 |.slotB x link head,hh=>let ⟨b0,b1,b2,b3,b4,b5,e,k0,k1,k2,k3,k4,k5⟩:=hh;⟨b0,b1,b2,b3,b4,b5,e,k0.soft g,k1.soft g,k2.soft g,k3.soft g,k4.soft g,k5.soft g⟩
 |.slotE x link head,hh=>let ⟨b0,b1,b2,b3,b4,b5,e,k0,k1,k2,k3,k4,k5⟩:=hh;⟨b0,b1,b2,b3,b4,b5,e,k0.soft g,k1.soft g,k2.soft g,k3.soft g,k4.soft g,k5.soft g⟩
 |.push link head,hh=>let ⟨b0,b1,b2,b3,b4,e,k0,k1,k2,k3,k4⟩:=hh;⟨b0,b1,b2,b3,b4,e,k0.soft g,k1.soft g,k2.soft g,k3.soft g,k4.soft g⟩
 |.pushC link head,hh=>let ⟨b0,b1,b2,b3,b4,e,k0,k1,k2,k3,k4⟩:=hh;⟨b0,b1,b2,b3,b4,e,k0.soft g,k1.soft g,k2.soft g,k3.soft g,k4.soft g⟩
 |.over link,hh=>let ⟨b0,b1,b2,b3,b4,e,k0,k1,k2,k3,k4⟩:=hh;⟨b0,b1,b2,b3,b4,e,k0.soft g,k1.soft g,k2.soft g,k3.soft g,k4.soft g⟩
 |.overN link head,hh=>let ⟨b0,b1,b2,b3,b4,b5,e,k0,k1,k2,k3,k4,k5⟩:=hh;⟨b0,b1,b2,b3,b4,b5,e,k0.soft g,k1.soft g,k2.soft g,k3.soft g,k4.soft g,k5.soft g⟩
 |.overC link head,hh=>let ⟨b0,b1,b2,b3,b4,b5,e,k0,k1,k2,k3,k4,k5⟩:=hh;⟨b0,b1,b2,b3,b4,b5,e,k0.soft g,k1.soft g,k2.soft g,k3.soft g,k4.soft g,k5.soft g⟩
 |.draw,hh=>let ⟨b0,b1,b2,e,k0,k1,k2⟩:=hh;⟨b0,b1,b2,e,k0.soft g,k1.soft g,k2.soft g⟩
 |.drawH w1 now,hh=>let ⟨b0,b1,b2,e,k0,k1,k2⟩:=hh;⟨b0,b1,b2,e,k0.soft g,k1.soft g,k2.soft g⟩
 |.turn w1 now,hh=>let ⟨b0,b1,b2,b3,b4,e,k0,k1,k2,k3,k4⟩:=hh;⟨b0,b1,b2,b3,b4,e,k0.soft g,k1.soft g,k2.soft g,k3.soft g,k4.soft g⟩
 |.helpJ,hh=>let ⟨b0,b1,b2,e,k0,k1,k2⟩:=hh;⟨b0,b1,b2,e,k0.soft g,k1.soft g,k2.soft g⟩
 |.wait i,hh=>let ⟨b0,b1,b2,b3,b4,e,k0,k1,k2,k3,k4⟩:=hh;⟨b0,b1,b2,b3,b4,e,k0.soft g,k1.soft g,k2.soft g,k3.soft g,k4.soft g⟩
 |.turns [] r,hh=>let ⟨b0,b1,b2,b3,e,k0,k1,k2,k3⟩:=hh;⟨b0,b1,b2,b3,e,k0.soft g,k1.soft g,k2.soft g,k3.soft g⟩
 |.turns (x::l) r,hh=>let ⟨b0,b1,b2,b3,b4,e,k0,k1,k2,k3,k4⟩:=hh;⟨b0,b1,b2,b3,b4,e,k0.soft g,k1.soft g,k2.soft g,k3.soft g,k4.soft g⟩
 |.commit,hh=>let ⟨b0,b1,b2,e,k0,k1,k2⟩:=hh;⟨b0,b1,b2,e,k0.soft g,k1.soft g,k2.soft g⟩
 |.abort e reason,hh=>let ⟨b0,b1,b2,b3,b4,e,k0,k1,k2,k3,k4⟩:=hh;⟨b0,b1,b2,b3,b4,e,k0.soft g,k1.soft g,k2.soft g,k3.soft g,k4.soft g⟩
end
theorem But.soft {L:Lab} {w w':World} {b:Nat} (hl:L b=some .tmp) (h:But b w w'):Soft L w L w':=⟨by rw[h.size];exact Nat.le_refl _,fun k hk e=>h.block k (by rintro rfl;rw[hl] at e;cases e),fun _ _ e=>e⟩
theorem heap_setCell_same {w:World} {b:Nat} {cs:Array Value} {T:TypeId} (h:w.heap[b]? =some (.cells cs T)) (i:Nat) (v:Value):(w.setCell ⟨b,i,none⟩ v).heap[b]? =some (.cells (cs.setIfInBounds i v) T):=by
 simp only[World.setCell,Array.getElem?_modify,h];simp
theorem heap_setCells6 {w:World} {b:Nat} {a0 a1 a2 a3 a4 a5:Value} {T:TypeId} (h:w.heap[b]? =some (.cells #[a0,a1,a2,a3,a4,a5] T)) (v0 v1 v2 v3 v4 v5:Value):(w.setCells b 0 [v0,v1,v2,v3,v4,v5]).heap[b]? =some (.cells #[v0,v1,v2,v3,v4,v5] T):=by
 have h1:=heap_setCell_same h 0 v0;have h2:=heap_setCell_same h1 1 v1;have h3:=heap_setCell_same h2 2 v2;have h4:=heap_setCell_same h3 3 v3;have h5:=heap_setCell_same h4 4 v4;have h6:=heap_setCell_same h5 5 v5;exact h6
theorem heap_setCells5 {w:World} {b:Nat} {a0 a1 a2 a3 a4:Value} {T:TypeId} (h:w.heap[b]? =some (.cells #[a0,a1,a2,a3,a4] T)) (v0 v1 v2 v3 v4:Value):(w.setCells b 0 [v0,v1,v2,v3,v4]).heap[b]? =some (.cells #[v0,v1,v2,v3,v4] T):=by
 have h1:=heap_setCell_same h 0 v0;have h2:=heap_setCell_same h1 1 v1;have h3:=heap_setCell_same h2 2 v2;have h4:=heap_setCell_same h3 3 v3;have h5:=heap_setCell_same h4 4 v4;exact h5
theorem there_of {w:World} {b:Nat} {cs:Array Value} {T:TypeId} (h:w.heap[b]? =some (.cells cs T)):w.there b 0 cs.size:=by
 intro j hj;rw[Nat.zero_add];refine⟨?_,by simp[World.frozen?,h]⟩;rw[cell_of_row w b j _ _ _ h];simp[hj]
end Go.Proofs.YtbefcdjcefmicaaGreat.Em
namespace Go.Proofs.YtbefcdjcefmicaaGreat.Em
open Go.ChangeMaps Go.ChangeShapes Go.WideShapes Go.ChangeAt Go.RowKit En
set_option linter.unusedVariables false
set_option linter.unusedSimpArgs false
set_option maxRecDepth 100000
set_option maxHeartbeats 1600000
theorem update_run {A:Book} {w:World} {s:Nat} {t:Txn} (hb:w.heap[A.bm s]? =some (.map (mapEs A s t).toArray t.cells.length)) (key b:Nat) (hx:t.cell key=none):
 (Instr.mapUpdate 114 (.map (some (A.bm s))) (zi (key:Int)) (ptr b)).run Tryz.prog w=.ok () (setBlock w (A.bm s) (.map (mapEs A s t++[(⟨i64 key,ptr b,t.cells.length⟩:MapEntry)]).toArray (t.cells.length+1))):=by
 have hck:∀ e,(Instr.checkKey e 10000 3 (zi (key:Int))).run Tryz.prog w=.ok () w:=by
  intro e;unfold Instr.checkKey;simp[run_underlying Tryz.underlying3]
 rw[mapEs_ent] at hb ⊢
 rcases findNow_ent (A.bx s) key (t.cells.reverse.zipIdx.map fun p=>(p.1.1,p.2)) 0 with ⟨h1,h2⟩|⟨j,h1,h2⟩
 · clear h2 hx
   generalize (t.cells.reverse.zipIdx.map fun p=>(p.1.1,p.2)).map (ent (A.bx s))=es at*;simp[Instr.mapUpdate,run_underlying Tryz.underlying114,run_underlying Tryz.underlying3,MapKept.run_getObj_map hb,hck,Instr.findKey,h1,MapKept.run_setObj_map _ hb,Result.andThen,setBlock]
 · have h3:=(cell_keys t key).1 h2
   rw[hx] at h3
   cases h3
theorem wpList_update {P:Program} {w w':World} {ops:Array Oper} {rest:List Oper} {o:Oper} {a:Act} {Q:Exit→Act→World→Prop}
 (hg:o.guard=none) (m x v:Operand) (t:TypeId) (hop:o.op=Op.mapUpdate t m x v) (hrun:(Instr.mapUpdate t (a.eval m) (a.eval x) (a.eval v)).run P w=.ok () w')
 (hK:wpList P ops Q rest (a.put o.dst undef) w'):wpList P ops Q (o::rest) a w:=by
 refine wpList_plain hg fun K' hK'=>?_
 unfold Oper.wp;simp[execOp,hop,hrun,Result.andThen];exact hK' _ _ hK
theorem grown_setBlock {w:World} {b:Nat} {es:Array MapEntry} {clock:Nat} (hb:w.heap[b]? =some (.map es clock)) (o:Obj):w.grownBy (setBlock w b o) (some b):=
 ⟨rfl,rfl,rfl,by simp[setBlock],fun i _ hi=>heap_setBlock_other hb _ (fun e=>hi (by rw[e]))⟩
def Took (A:Book) (w:World) (s key:Nat) (σ':St):Ending→World→Prop:=fun e w'=>∃ b,e=.returned (ptr b)∧∃ A',Rep A' σ' w'∧Grow A.L w A'.L w'∧Stay A A' s∧A'.bx s key=b∧A'.vpairs=A.vpairs
theorem take_tells {A:Book} {σ:St} {w:World} (hR:Rep A σ w) (s:Nat) (t:Txn) (ht:σ.txns.getD s none=some t) (key old:Nat) (hx:t.cell key=none) (hk:t.keys.length<1000000):
 Calls Tryz.prog 176 #[.pointer (some ⟨A.bt s,0,none⟩),zi (key:Int),zu (old:Int)] w (Took A w s key (σ.takeKey s key ⟨0,old,false⟩)):=by
 have hb:=hR.map ht;generalize hwa:w.alloc (.cells #[zu 0,zu (old:Int),.bool false] 204)=wa;have hbl:Below w.heap.size w wa:=by rw[←hwa];exact (Below.refl _ _).alloc (Nat.le_refl _) _
 have hblk:wa.heap[w.heap.size]? =some (.cells (celCs ⟨0,old,false⟩).toArray 204):=by rw[←hwa];exact heap_alloc_new w _
 have ra:=hR.below hbl;have t7:=ra.txn ht 7 (v:=.map (some (A.bm s))) rfl;have hb1:=ra.map ht;have hup:=update_run hb1 key w.heap.size hx;generalize hwb:setBlock wa (A.bm s) (.map (mapEs A s t++[(⟨i64 key,ptr w.heap.size,t.cells.length⟩:MapEntry)]).toArray (t.cells.length+1))=wb at hup;obtain⟨rb,gb⟩:=hR.newCel hbl ht hx (Nat.le_refl _) ⟨0,old,false⟩ hblk (w2:=wb) (by rw[←hwb];exact grown_setBlock hb1 _) (by rw[←hwb];exact heap_setBlock_same hb1 _) (by rw[←hwb];simp[setBlock]);have ht2:(σ.setT s {t with cells:=(key,⟨0,old,false⟩)::t.cells}).txns.getD s none=some {t with cells:=(key,⟨0,old,false⟩)::t.cells}:=by rw[getT_set (lt_of_txn ht),if_pos rfl]
 have t6:wb.cell? ⟨A.bt s,6,none⟩=some (A.vkeys s):=rb.txn ht2 6 rfl;have z6:=rb.txnF ht2 6;have rc:=rb.alloc (.cells #[zi (key:Int)] 3);have hown:=(rc.mem.all (.keys s))
 rw[mem_keys ht2] at hown;have ho:(wb.alloc (.cells #[zi (key:Int)] 3)).ownsRow 0 3 1 (A.vkeys s) t.keys.length (t.keys.map i64):=hown.1;obtain⟨av,capv,hv,_⟩:=Ow.own_form ho;have e:σ.takeKey s key ⟨0,old,false⟩=(σ.setT s {t with cells:=(key,⟨0,old,false⟩)::t.cells}).setT s {t with cells:=(key,⟨0,old,false⟩)::t.cells,keys:=t.keys++[key]}:=by
  unfold St.takeKey St.setT;rw[txn_get ht];simp
 rw[e]
 have FN : Hid (∀ v' w2, w2.ownsRow 0 3 1 v' (t.keys.length + 1) (t.keys.map i64 ++ [zi (key : Int)]) → (wb.alloc (.cells #[zi (key : Int)] 3)).grownBy w2 (A.vkeys s).ownBlock → (v'.ownBlock = (A.vkeys s).ownBlock ∨ ∀ g, v'.ownBlock = some g → (wb.alloc (.cells #[zi (key : Int)] 3)).heap.size ≤ g) →
     (∃ A',Rep A' ((σ.setT s {t with cells:=(key,⟨0,old,false⟩)::t.cells}).setT s {t with cells:=(key,⟨0,old,false⟩)::t.cells,keys:=t.keys++[key]}) (w2.setCell ⟨A.bt s,6,none⟩ v')∧Grow A.L w A'.L (w2.setCell ⟨A.bt s,6,none⟩ v')∧Stay A A' s∧A'.bx s key=w.heap.size∧A'.vpairs=A.vpairs)∧w2.cell? ⟨A.bt s,6,none⟩=some (A.vkeys s)∧w2.frozen? ⟨A.bt s,6,none⟩=false):=by
  intro v' w2 q1 q2 q3;obtain⟨k1,k2,k3,k4⟩:=rc.keysOn ht2 (t.keys++[key]) v' q2 (by simpa using q1) q3;refine⟨⟨_,k1,(gb.trans (Grow.alloc _ _ _)).trans k2,⟨rfl,rfl,rfl,rfl,rfl,rfl,rfl,rfl,rfl,rfl,rfl,fun k hk'=>?_,fun _ _=>rfl⟩,?_,rfl⟩,k3,k4⟩
  · funext j
    show (if k=s∧j=key then w.heap.size else A.bx k j)=A.bx k j;rw[if_neg (fun h=>hk' h.1)]
  · show (if s=s∧key=key then w.heap.size else A.bx s key)=w.heap.size
    rw[if_pos ⟨rfl,rfl⟩]
 have HUP:=zH hup;rw[←hwa] at HUP t7;rw[hv] at t6 ho FN;have HO:=zH ho;have z6':wb.frozen? ⟨A.bt s,6,none⟩=false:=z6;have HZ:=zH (show wb.heap.size=w.heap.size+1 by rw[←hwb,←hwa];simp[setBlock]);clear hR ht hb hbl hblk ra hb1 hup rb gb ht2 rc hown ho e hwb hwa hx z6;generalize hn:t.keys.length=n at*;have HN:=zH hk;clear hk hn;obtain⟨ii,hii,hz0,hz1,hz2⟩:=info_parts infoI;go_enter Tryz.func176,Tryz.ntmps176;go_wp2_with (first|(refine wpList_update rfl (.tmp 14) (.tmp 15) (.tmp 16) 114 rfl HUP.out ?_)|(refine Ow.wpList_append_to _ rfl (.tmp 21) (.tmp 23) 33 rfl 0 _ ii _ 1 8 Tryz.underlying33 hii hz0 hz1 hz2 rfl (by decide) (.slice av n capv) n (t.keys.map i64) rfl HO.out ⟨wb.heap.size,0,none⟩ 1 1 (by omega) [zi (key:Int)] rfl rfl (by intro j' u hu;exact Ow.new_row _ [zi (key:Int)] _ _ rfl j' u hu) (by intro u hu;obtain rfl:=List.mem_singleton.1 hu;rfl) (by have:=HN.out;unfold maxLen;omega) (by have:=HN.out;omega) (Nat.zero_le _) ?_;intro v' w4 q1 q2 q3;obtain⟨k1,k2,k3⟩:=FN.out v' w4 q1 q2 q3;obtain⟨a4,cap4,rfl,_⟩:=Ow.own_form q1;have K1:=zH k1;clear k1 q1 q2 q3));go_ret;exact⟨_,rfl,K1.out⟩
end Go.Proofs.YtbefcdjcefmicaaGreat.Em
namespace Go.Proofs.YtbefcdjcefmicaaGreat.Em
open Go.ChangeShapes Go.WideShapes Go.ChangeAt Go.RowKit En
set_option linter.unusedVariables false
set_option linter.unusedSimpArgs false
set_option maxRecDepth 100000
set_option maxHeartbeats 1600000
theorem PRow.labs {L L':Lab} {w:World} {v:Value} {xs:List Value} (h:PRow L w v xs) {b:Nat} (hL:∀ g,g≠b→L' g=L g) (hb:∀ cs,w.heap[b]? ≠some (.cells cs 140)):PRow L' w v xs:=by
 obtain⟨⟨ad,n,cap,rfl,e2,e3,e4,e5⟩,h2⟩:=h;refine⟨⟨ad,n,cap,rfl,e2,e3,e4,?_⟩,h2⟩
 rcases e5 with h0|⟨g,off,rfl,e7,e8,e9⟩
 · exact .inl h0
 · rcases h2 g off n cap rfl with h0|⟨cs,hc⟩
   · exact .inl h0
   · refine .inr ⟨g,off,rfl,?_,e8,e9⟩
     rw[hL g (by rintro rfl;exact hb _ hc)];exact e7
theorem Evs.labs {L L':Lab} {w:World} {b:Nat} (hL:∀ g,g≠b→L' g=L g) (hb:∀ cs,w.heap[b]? ≠some (.cells cs 140)):∀ {l:List Ev} {xs:List Value},Evs L w l xs→Evs L' w l xs
 |[],_,h=>h
 |_::_,_,⟨vp,ys,h1,h2,h3⟩=>⟨vp,ys,h1,h2.labs hL hb,Evs.labs hL hb h3⟩
theorem Evs.lab {L:Lab} {w:World} {b:Nat} {cs:Array Value} {T:TypeId} {l:List Ev} {xs:List Value} (h:Evs L w l xs) (he:w.heap[b]? =some (.cells cs T)) (hT:T≠140) (r:Role):Evs (lab1 L b r) w l xs:=
 h.labs (fun g hg=>lab1_other hg) (fun cs' hc=>by rw[he] at hc;simp at hc;exact hT hc.2)
theorem Evs.labMap {L:Lab} {w:World} {b:Nat} {es:Array MapEntry} {k:Nat} {l:List Ev} {xs:List Value} (h:Evs L w l xs) (he:w.heap[b]? =some (.map es k)) (r:Role):Evs (lab1 L b r) w l xs:=
 h.labs (fun g hg=>lab1_other hg) (fun cs' hc=>by rw[he] at hc;simp at hc)
theorem Rep.adoptTxn {A:Book} {σ:St} {w w1:World} (h:Rep A σ w1) (g0:Grow A.L w A.L w1) {s b m:Nat} (hfb:A.L b=none) (hfm:A.L m=none) (hs:s<8) (hb:w.heap.size≤b) (hm:w.heap.size≤m) (hbm:b≠m) (t:Txn) (h1:t.keys=[]) (h2:t.cells=[]) (h3:t.reads=[]) (h4:t.bonds=[])
 (he:w1.heap[b]? =some (.cells (txnCs (A.newTxn s b m) s t).toArray 129)) (hmap:w1.heap[m]? =some (.map #[] 0)) (hn:σ.txns.getD s none=none):
 Rep (A.newTxn s b m) (σ.setT s t) (w1.setCell ⟨A.be,5+s,none⟩ (.pointer (some ⟨b,0,none⟩)))∧Grow A.L w (A.newTxn s b m).L (w1.setCell ⟨A.be,5+s,none⟩ (.pointer (some ⟨b,0,none⟩))):=by
 have hlt:b<w1.heap.size:=lt_of he;have hltm:m<w1.heap.size:=lt_of hmap;have n8:=h.n8;have hn2:=hn;rw[List.getD_eq_getElem?_getD] at hn2;have k1:=h.mem.adopt (.txn s) hfb (.obj b (txnCs (A.newTxn s b m) s t) 129) ⟨lab1_same _ _ _,he⟩ hlt;have k2:=k1.adopt (.map s) (b:=m) ((lab1_other (Ne.symm hbm)).trans hfm) (.map m [] 0) ⟨lab1_same _ _ _,hmap⟩ hltm;have hE:(updE (updE (memOf A σ) (.txn s) (.obj b (txnCs (A.newTxn s b m) s t) 129)) (.map s) (.map m [] 0)) .eng=.obj A.be (engCs A σ) 113:=rfl;have k3:=k2.put .eng hE (5+s) (.pointer (some ⟨b,0,none⟩));have g:Grow A.L w (A.newTxn s b m).L (w1.setCell ⟨A.be,5+s,none⟩ (.pointer (some ⟨b,0,none⟩))):=
  ((g0.lab1 hb _).lab1 hm _).trans (k2.grow_set hE (5+s) _)
 have k4 : Holds (A.newTxn s b m).L (w1.setCell ⟨A.be, 5 + s, none⟩ (.pointer (some ⟨b, 0, none⟩))) (fun q => match q with
     |.keys k=>if k=s then .own (.slice none 0 0) 3 1 0 [] else memOf A σ (.keys k)
     |.reads k=>if k=s then .own (.slice none 0 0) 237 3 0 [] else memOf A σ (.reads k)
     |.bonds k=>if k=s then .own (.slice none 0 0) 3 1 0 [] else memOf A σ (.bonds k)
     |q=>updE (updE (updE (memOf A σ) (.txn s) (.obj b (txnCs (A.newTxn s b m) s t) 129)) (.map s) (.map m [] 0)) .eng (.obj A.be ((engCs A σ).set (5+s) (.pointer (some ⟨b,0,none⟩))) 113) q):=by
  refine⟨fun q=>?_,k3.fresh⟩;have k:=k3.all q
  cases q<;>first|exact k|skip
  all_goals
   rename_i j
   by_cases hj:j=s
   · subst hj
     simp only[if_pos];exact⟨World.ownsRow_nil _ 0 _ _,fun g hg=>by cases hg⟩
   · simp only[if_neg hj]
     simp[updE] at k;exact k
 refine⟨⟨k4.of_eq fun q=>?_,((h.ev.lab he (by decide) (.txn s)).labMap hmap (.map s)).grow (k2.grow_set hE (5+s) _),h.sl,h.nw,h.nt,h.nv,by simpa [St.setT] using h.n8,h.nc⟩,g⟩;have gt:∀ k,(σ.setT s t).txns.getD k none=if k=s then some t else σ.txns.getD k none:=fun k=>getT_set (by omega) t k
 have tp:∀ k,(A.newTxn s b m).tp (σ.setT s t) k=if k=s then .pointer (some ⟨b,0,none⟩) else A.tp σ k:=by
  intro k;unfold Book.tp;rw[gt];by_cases hk:k=s
  · subst hk;simp[Book.newTxn]
  · simp[hk,Book.newTxn]
 cases hq:q.tx with
 |none=>
  cases q<;>first|rfl|(simp[Role.tx] at hq;done)|skip
  simp only[updE,if_pos,memOf,engCs,tp]
  match s,hs with
  |0,_|1,_|2,_|3,_|4,_|5,_|6,_|7,_=>rfl
 |some k=>
  rw[mem_tx _ _ hq,gt]
  by_cases hk:k=s
  · subst hk
    rw[if_pos rfl]
    cases q<;>simp[Role.tx] at hq<;>subst hq<;>simp[txEntry,updE,Book.newTxn,upF,h1,h2,h3,h4,mapEs,readCs,Txn.cell,memOf,hn2]
  · rw[if_neg hk,←mem_tx _ σ hq]
    have:=mem_butTx (A:=A) (A':={A.newTxn s b m with bt:=A.bt}) (s:=s) ⟨rfl,rfl,rfl,rfl,rfl,rfl,rfl,rfl,rfl,rfl,rfl,rfl,rfl,rfl,rfl,rfl,rfl,fun k hk=>if_neg hk,fun _ _=>rfl,fun k hk=>upF_other _ _ hk,fun k hk=>upF_other _ _ hk,fun k hk=>upF_other _ _ hk,fun k hk=>if_neg hk,fun k hk=>if_neg hk⟩ σ (q:=q) (by rw[hq];simpa using hk);have e2:memOf (A.newTxn s b m) σ q=memOf {A.newTxn s b m with bt:=A.bt} σ q:=by
     cases q<;>simp[Role.tx] at hq<;>subst hq<;>simp[memOf,Book.newTxn,hk,txnCs,mapEs]
    rw[e2,this]
    cases q<;>simp[Role.tx] at hq<;>subst hq<;>simp[updE,hk]
end Go.Proofs.YtbefcdjcefmicaaGreat.Em
