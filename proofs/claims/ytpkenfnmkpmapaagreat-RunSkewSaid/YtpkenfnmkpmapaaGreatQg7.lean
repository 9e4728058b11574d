import Derived.Test.YtpkenfnmkpmapaaGreatQg6
import Derived.Laws.ResultCell
import Derived.Laws.Rows
import Derived.Deep.Cut
namespace Go.Proofs.YtpkenfnmkpmapaaGreat.Em
open Go.ChangeShapes Go.WideShapes Go.ChangeAt Go.RowKit En
set_option linter.unusedVariables false
set_option linter.unusedSimpArgs false
set_option maxRecDepth 100000
set_option maxHeartbeats 1600000
def Book.tmp (A:Book) (b:Nat):Book:={A with L:=lab1 A.L b .tmp}
theorem mem_tmp (A:Book) (σ:St) (b:Nat) (q:Role):memOf (A.tmp b) σ q=memOf A σ q:=by cases q<;>rfl
theorem Rep.newTmp {A:Book} {σ:St} {w:World} (h:Rep A σ w) (o:Obj):Rep (A.tmp w.heap.size) σ (w.alloc o)∧Grow A.L w (A.tmp w.heap.size).L (w.alloc o)∧(A.tmp w.heap.size).L w.heap.size=some .tmp∧(w.alloc o).heap[w.heap.size]? =some o:=by
 have g:Grow A.L w (A.tmp w.heap.size).L (w.alloc o):=(Grow.alloc A.L w o).lab1 (Nat.le_refl _) _;refine⟨⟨⟨fun r=>?_,fun b hb=>?_⟩,h.ev.grow g,h.sl,h.nw,h.nt,h.nv,h.n8,h.nc⟩,g,lab1_same _ _ _,heap_alloc_new w o⟩
 · rw[mem_tmp]
   exact (h.mem.all r).frame (fun b hb _=>Below.heap_alloc w o b hb) (fun b hb=>lab1_other (by omega))
 · have:w.heap.size+1≤b:=by simpa using hb
   show lab1 A.L w.heap.size .tmp b=none;rw[lab1_other (by omega)];exact h.mem.fresh b (by omega)
theorem tmp_grow {L L':Lab} {w w':World} {b:Nat} {o:Obj} (h:L b=some .tmp∧w.heap[b]? =some o) (g:Grow L w L' w'):L' b=some .tmp∧w'.heap[b]? =some o:=⟨(g.lab b (lt_of h.2)).trans h.1,(g.keep b (lt_of h.2) h.1).trans h.2⟩
structure But (b:Nat) (w w':World):Prop where
 os:w'.os=w.os
 tape:w'.tape=w.tape
 output:w'.output=w.output
 size:w'.heap.size=w.heap.size
 block:∀ k,k≠b→w'.heap[k]? =w.heap[k]?
theorem But.setCell (w:World) (a:Addr) (v:Value):But a.block w (w.setCell a v):=⟨rfl,rfl,rfl,by simp[World.setCell],fun k hk=>Below.heap_setCell _ _ _ _ hk⟩
theorem But.trans {b:Nat} {w w1 w2:World} (h:But b w w1) (k:But b w1 w2):But b w w2:=⟨k.os.trans h.os,k.tape.trans h.tape,k.output.trans h.output,k.size.trans h.size,fun j hj=>(k.block j hj).trans (h.block j hj)⟩
theorem But.setCells (b:Nat):∀ (vs:List Value) (o:Nat) (w:World),But b w (w.setCells b o vs)
 |[],_,w=>⟨rfl,rfl,rfl,rfl,fun _ _=>rfl⟩
 |v::vs,o,w=>(But.setCell w ⟨b,o,none⟩ v).trans (But.setCells b vs (o+1) (w.setCell ⟨b,o,none⟩ v))
section
variable {L:Lab} {w w':World} {b:Nat} (hl:L b=some .tmp) (h:But b w w')
include hl h
theorem FRow.but {size:Nat} {v:Value} {xs:List Value} (f:FRow L w size v xs):FRow L w' size v xs:=by
 obtain⟨ad,n,cap,rfl,e2,e3,e4,e5⟩:=f;refine⟨ad,n,cap,rfl,e2,e3,e4,?_⟩
 rcases e5 with h0|⟨g,off,rfl,e7,e8,e9⟩
 · exact .inl h0
 · refine .inr ⟨g,off,rfl,e7,by rw[h.size];exact e8,fun j hj=>?_⟩
   rw[World.cell?_of_block (w:=w) (a:=⟨g,off+j,none⟩) (h.block g (by rintro rfl;rw[hl] at e7;cases e7))];exact e9 j hj
theorem PRow.but {v:Value} {xs:List Value} (f:PRow L w v xs):PRow L w' v xs:=by
 refine⟨f.1.but hl h,fun g off n cap hv=>?_⟩
 rcases f.2 g off n cap hv with h0|⟨cs,hc⟩
 · exact .inl h0
 · by_cases hn:n=0
   · exact .inl hn
   · obtain⟨ad,n',cap',e1,e2,e3,e4,e5⟩:=f.1
     obtain⟨rfl,rfl,rfl⟩:ad=some ⟨g,off,none⟩∧n'=n∧cap'=cap:=by rw[hv] at e1;simp at e1;exact⟨e1.1.symm,e1.2.1.symm,e1.2.2.symm⟩
     obtain⟨g',off',e6,e7,_⟩:=e5.resolve_left hn;obtain⟨rfl,rfl⟩:g=g'∧off=off':=by simpa using e6
     exact .inr ⟨cs,(h.block g (by rintro rfl;rw[hl] at e7;cases e7)).trans hc⟩
theorem Evs.but:∀ {l:List Ev} {xs:List Value},Evs L w l xs→Evs L w' l xs
 |[],_,f=>f
 |_::_,_,⟨vp,ys,h1,h2,h3⟩=>⟨vp,ys,h1,h2.but hl h,Evs.but h3⟩
end
theorem Rep.but {A:Book} {σ:St} {w w':World} {b:Nat} (hR:Rep A σ w) (hl:A.L b=some .tmp) (h:But b w w'):Rep A σ w':=by
 refine⟨⟨fun r=>?_,fun k hk=>hR.mem.fresh k (by rw[←h.size];exact hk)⟩,hR.ev.but hl h,hR.sl,hR.nw,hR.nt,hR.nv,hR.n8,hR.nc⟩
 by_cases hr:r=.tmp
 · subst hr;trivial
 · refine (hR.mem.all r).frame (fun k hk hk'=>h.block k ?_) (fun _ _=>rfl)
   rintro rfl;rw[hl] at hk';exact hr (Option.some.inj hk').symm
theorem Grow.but {L L':Lab} {w w1 w2:World} {b:Nat} (g:Grow L w L' w1) (hb:w.heap.size≤b) (h:But b w1 w2):Grow L w L' w2:=
 ⟨h.os.trans g.os,h.tape.trans g.tape,h.output.trans g.output,by rw[h.size];exact g.size,fun k hk hl=>(h.block k (by omega)).trans (g.block k hk hl),g.lab,fun k hk hl=>(h.block k (by omega)).trans (g.keep k hk hl)⟩
structure Soft (L:Lab) (w:World) (L':Lab) (w':World):Prop where
 size:w.heap.size≤w'.heap.size
 block:∀ b,b<w.heap.size→L b=none→w'.heap[b]? =w.heap[b]?
 lab:∀ b,b<w.heap.size→L b=none→L' b=none
section
variable {p:KP} {L L':Lab} {w w':World}
theorem Fix.soft {b:Nat} {o:Obj} (h:Fix L w b o) (g:Soft L w L' w'):Fix L' w' b o:=⟨g.lab b (lt_of h.2) h.1,(g.block b (lt_of h.2) h.1).trans h.2⟩
theorem Box.soft {b:Nat} {v:Value} (h:Box L w b v) (g:Soft L w L' w'):Box L' w' b v:=let ⟨T,h⟩:=h;⟨T,h.soft g⟩
theorem FRow.soft {size:Nat} {v:Value} {xs:List Value} (h:FRow L w size v xs) (g:Soft L w L' w'):FRow L' w' size v xs:=by
 obtain⟨a,n,cap,h1,h2,h3,h4,h5⟩:=h;refine⟨a,n,cap,h1,h2,h3,h4,?_⟩
 rcases h5 with h5|⟨b,off,e1,e2,e3,e4⟩
 · exact .inl h5
 · refine .inr ⟨b,off,e1,g.lab b e3 e2,Nat.lt_of_lt_of_le e3 g.size,fun j hj=>?_⟩
   rw[World.cell?_of_block (w:=w) (a:=⟨b,off+j,none⟩) (g.block b e3 e2)];exact e4 j hj
theorem SRep.soft {e:Nat} {L L':Lab} {w w':World} {v:Value} (g:Soft L w L' w'):∀ {k:Option S},SRep e L w v k→SRep e L' w' v k
 |none,h=>h
 |some .now,h=>h
 |some (.live s),h=>let ⟨b0,b1,e,k0,k1⟩:=h;⟨b0,b1,e,k0.soft g,k1.soft g⟩
 |some (.head key),h=>let ⟨b0,b1,e,k0,k1⟩:=h;⟨b0,b1,e,k0.soft g,k1.soft g⟩
 |some (.visit key ahead link),h=>let ⟨b0,b1,b2,b3,e,k0,k1,k2,k3⟩:=h;⟨b0,b1,b2,b3,e,k0.soft g,k1.soft g,k2.soft g,k3.soft g⟩
 |some (.maker key ahead link id),h=>let ⟨b0,b1,b2,b3,b4,e,k0,k1,k2,k3,k4⟩:=h;⟨b0,b1,b2,b3,b4,e,k0.soft g,k1.soft g,k2.soft g,k3.soft g,k4.soft g⟩
 |some (.garbage key ahead link b),h=>let ⟨b0,b1,b2,b3,b4,e,k0,k1,k2,k3,k4⟩:=h;⟨b0,b1,b2,b3,b4,e,k0.soft g,k1.soft g,k2.soft g,k3.soft g,k4.soft g⟩
 |some (.on key link),h=>let ⟨b0,b1,b2,e,k0,k1,k2⟩:=h;⟨b0,b1,b2,e,k0.soft g,k1.soft g,k2.soft g⟩
 |some (.unlink key ahead link),h=>let ⟨b0,b1,b2,b3,e,k0,k1,k2,k3⟩:=h;⟨b0,b1,b2,b3,e,k0.soft g,k1.soft g,k2.soft g,k3.soft g⟩
 |some (.cut key ahead link nx),h=>let ⟨b0,b1,b2,b3,b4,e,k0,k1,k2,k3,k4⟩:=h;⟨b0,b1,b2,b3,b4,e,k0.soft g,k1.soft g,k2.soft g,k3.soft g,k4.soft g⟩
theorem SwRep.soft {A A':Book} {σ:St} {w w':World} (h:SwRep A σ w) (e:A'.bef=A.bef) (g:Soft A.L w A'.L w'):SwRep A' σ w':=
 ⟨by rw[bef_be e,bef_sv e];exact h.sw.soft g,h.cu.keep e⟩
theorem ResBox.soft {b:Nat} {r:Res} (h:ResBox p L w b r) (g:Soft L w L' w'):ResBox p L' w' b r:=let ⟨vp,T,h1,h2⟩:=h;⟨vp,T,h1.soft g,h2⟩
theorem StampBox.soft {b n:Nat} (h:StampBox L w b n) (g:Soft L w L' w'):StampBox L' w' b n:=let ⟨T,h1⟩:=h;⟨T,h1.soft g⟩
theorem SeenBox.soft {b n:Nat} (h:SeenBox L w b n) (g:Soft L w L' w'):SeenBox L' w' b n:=let ⟨T,k,q,h1⟩:=h;⟨T,k,q,h1.soft g⟩
theorem HeadBox.soft {b n:Nat} {x:Bool} (h:HeadBox L w b x n) (g:Soft L w L' w'):HeadBox L' w' b x n:=let ⟨v,h1,h2⟩:=h;⟨v,h1.soft g,h2.soft g⟩
theorem ListBox.soft {b:Nat} {l:List Trn} (h:ListBox L w b l) (g:Soft L w L' w'):ListBox L' w' b l:=let ⟨v,h1,h2⟩:=h;⟨v,h1.soft g,h2.soft g⟩
theorem TellBox.soft {b k:Nat} (h:TellBox p L w b k) (g:Soft L w L' w'):TellBox p L' w' b k:=let ⟨v,h1,c0,c1,e,k0,k1⟩:=h;⟨v,h1.soft g,c0,c1,e,k0.soft g,k1.soft g⟩
theorem NextBox.soft {b l1 l2 l3:Nat} (h:NextBox p L w b l1 l2 l3) (g:Soft L w L' w'):NextBox p L' w' b l1 l2 l3:=let ⟨v,h1,c0,c1,c2,c3,c4,c5,e,k0,k1,k2,k3,k4,k5⟩:=h;⟨v,h1.soft g,c0,c1,c2,c3,c4,c5,e,k0.soft g,k1.soft g,k2.soft g,k3.soft g,k4.soft g,k5.soft g⟩
theorem TurnBox.soft {b l1 l2:Nat} (h:TurnBox p L w b l1 l2) (g:Soft L w L' w'):TurnBox p L' w' b l1 l2:=let ⟨v,h1,c0,c1,c2,c3,c4,e,k0,k1,k2,k3,k4⟩:=h;⟨v,h1.soft g,c0,c1,c2,c3,c4,e,k0.soft g,k1.soft g,k2.soft g,k3.soft g,k4.soft g⟩
theorem ThnRep.soft {v:Value} {key:Nat} {t:Thn} (h:ThnRep p L w v key t) (g:Soft L w L' w'):ThnRep p L' w' v key t:=
 match t,h with
 |.get,hh=>let ⟨b0,b1,b2,b3,e,k0,k1,k2,k3⟩:=hh;⟨b0,b1,b2,b3,e,k0.soft g,k1.soft g,k2.soft g,k3.soft g⟩
 |.scan k,hh=>let ⟨b0,b1,b2,b3,b4,e,k0,k1,k2,k3,k4⟩:=hh;⟨b0,b1,b2,b3,b4,e,k0.soft g,k1.soft g,k2.soft g,k3.soft g,k4.soft g⟩
 |.change,hh=>let ⟨b0,b1,b2,b3,e,k0,k1,k2,k3⟩:=hh;⟨b0,b1,b2,b3,e,k0.soft g,k1.soft g,k2.soft g,k3.soft g⟩
 |.judge i l,hh=>let ⟨b0,b1,b2,b3,b4,e,k0,k1,k2,k3,k4⟩:=hh;⟨b0,b1,b2,b3,b4,e,k0.soft g,k1.soft g,k2.soft g,k3.soft g,k4.soft g⟩
theorem HuntAt.soft {b:Nat} {h:Hunt} (hh:HuntAt p L w b h) (g:Soft L w L' w'):HuntAt p L' w' b h:=let ⟨v,T,h1,h2⟩:=hh;⟨v,T,h1.soft g,h2.soft g⟩
theorem HuntBox.soft {b:Nat} {h:Hunt} (hh:HuntBox p L w b h) (g:Soft L w L' w'):HuntBox p L' w' b h:=let ⟨v,h1,h2⟩:=hh;⟨v,h1.soft g,h2.soft g⟩
theorem KRep.soft {v:Value} {k:K} (h:KRep p L w v k) (g:Soft L w L' w'):KRep p L' w' v k:=
 match k,h with
 |.start _,⟨bh,e,h1⟩=>⟨bh,e,h1.soft g⟩
 |.fin r,hh=>let ⟨b0,b1,b2,e,k0,k1,k2⟩:=hh;⟨b0,b1,b2,e,k0.soft g,k1.soft g,k2.soft g⟩
 |.visit h link,hh=>let ⟨b0,b1,e,k0,k1⟩:=hh;⟨b0,b1,e,k0.soft g,k1.soft g⟩
 |.older h link,hh=>let ⟨b0,b1,e,k0,k1⟩:=hh;⟨b0,b1,e,k0.soft g,k1.soft g⟩
 |.maker h link id,hh=>let ⟨b0,b1,b2,e,k0,k1,k2⟩:=hh;⟨b0,b1,b2,e,k0.soft g,k1.soft g,k2.soft g⟩
 |.ended h link mb,hh=>let ⟨b0,b1,b2,e,k0,k1,k2⟩:=hh;⟨b0,b1,b2,e,k0.soft g,k1.soft g,k2.soft g⟩
 |.ender h link mb id,hh=>let ⟨b0,b1,b2,b3,e,k0,k1,k2,k3⟩:=hh;⟨b0,b1,b2,b3,e,k0.soft g,k1.soft g,k2.soft g,k3.soft g⟩
 |.seen h link mb,hh=>let ⟨b0,b1,b2,e,k0,k1,k2⟩:=hh;⟨b0,b1,b2,e,k0.soft g,k1.soft g,k2.soft g⟩
 |.again end_,hh=>let ⟨b0,b1,b2,b3,e,k0,k1,k2,k3⟩:=hh;⟨b0,b1,b2,b3,e,k0.soft g,k1.soft g,k2.soft g,k3.soft g⟩
 |.own link,hh=>let ⟨b0,b1,b2,b3,e,k0,k1,k2,k3⟩:=hh;⟨b0,b1,b2,b3,e,k0.soft g,k1.soft g,k2.soft g,k3.soft g⟩
 |.ownTxn link w1 id,hh=>let ⟨b0,b1,b2,b3,b4,b5,e,k0,k1,k2,k3,k4,k5⟩:=hh;⟨b0,b1,b2,b3,b4,b5,e,k0.soft g,k1.soft g,k2.soft g,k3.soft g,k4.soft g,k5.soft g⟩
 |.claim link w1,hh=>let ⟨b0,b1,b2,b3,b4,e,k0,k1,k2,k3,k4⟩:=hh;⟨b0,b1,b2,b3,b4,e,k0.soft g,k1.soft g,k2.soft g,k3.soft g,k4.soft g⟩
 |.fresh link,hh=>let ⟨b0,b1,b2,b3,e,k0,k1,k2,k3⟩:=hh;⟨b0,b1,b2,b3,e,k0.soft g,k1.soft g,k2.soft g,k3.soft g⟩
 |.next link head at_,hh=>let ⟨b0,b1,b2,b3,b4,b5,e,k0,k1,k2,k3,k4,k5⟩:=hh;⟨b0,b1,b2,b3,b4,b5,e,k0.soft g,k1.soft g,k2.soft g,k3.soft g,k4.soft g,k5.soft g⟩
 |.free link head at_,hh=>let ⟨b0,b1,b2,b3,b4,b5,e,k0,k1,k2,k3,k4,k5⟩:=hh;⟨b0,b1,b2,b3,b4,b5,e,k0.soft g,k1.soft g,k2.soft g,k3.soft g,k4.soft g,k5.soft g⟩
 |.freeTxn link head at_ id,hh=>let ⟨b0,b1,b2,b3,b4,b5,e,k0,k1,k2,k3,k4,k5⟩:=hh;⟨b0,b1,b2,b3,b4,b5,e,k0.soft g,k1.soft g,k2.soft g,k3.soft g,k4.soft g,k5.soft g⟩
 |.slotB x link head,hh=>let ⟨b0,b1,b2,b3,b4,b5,e,k0,k1,k2,k3,k4,k5⟩:=hh;⟨b0,b1,b2,b3,b4,b5,e,k0.soft g,k1.soft g,k2.soft g,k3.soft g,k4.soft g,k5.soft g⟩
 |.slotE x link head,hh=>let ⟨b0,b1,b2,b3,b4,b5,e,k0,k1,k2,k3,k4,k5⟩:=hh;⟨b0,b1,b2,b3,b4,b5,e,k0.soft g,k1.soft g,k2.soft g,k3.soft g,k4.soft g,k5.soft g⟩
 |.push link head,hh=>let ⟨b0,b1,b2,b3,b4,e,k0,k1,k2,k3,k4⟩:=hh;⟨b0,b1,b2,b3,b4,e,k0.soft g,k1.soft g,k2.soft g,k3.soft g,k4.soft g⟩
 |.pushC link head,hh=>let ⟨b0,b1,b2,b3,b4,e,k0,k1,k2,k3,k4⟩:=hh;⟨b0,b1,b2,b3,b4,e,k0.soft g,k1.soft g,k2.soft g,k3.soft g,k4.soft g⟩
 |.over link,hh=>let ⟨b0,b1,b2,b3,b4,e,k0,k1,k2,k3,k4⟩:=hh;⟨b0,b1,b2,b3,b4,e,k0.soft g,k1.soft g,k2.soft g,k3.soft g,k4.soft g⟩
 |.overN link head,hh=>let ⟨b0,b1,b2,b3,b4,b5,e,k0,k1,k2,k3,k4,k5⟩:=hh;⟨b0,b1,b2,b3,b4,b5,e,k0.soft g,k1.soft g,k2.soft g,k3.soft g,k4.soft g,k5.soft g⟩
 |.overC link head,hh=>let ⟨b0,b1,b2,b3,b4,b5,e,k0,k1,k2,k3,k4,k5⟩:=hh;⟨b0,b1,b2,b3,b4,b5,e,k0.soft g,k1.soft g,k2.soft g,k3.soft g,k4.soft g,k5.soft g⟩
 |.draw,hh=>let ⟨b0,b1,b2,e,k0,k1,k2⟩:=hh;⟨b0,b1,b2,e,k0.soft g,k1.soft g,k2.soft g⟩
 |.drawH w1 now,hh=>let ⟨b0,b1,b2,e,k0,k1,k2⟩:=hh;⟨b0,b1,b2,e,k0.soft g,k1.soft g,k2.soft g⟩
 |.turn w1 now,hh=>let ⟨b0,b1,b2,b3,b4,e,k0,k1,k2,k3,k4⟩:=hh;⟨b0,b1,b2,b3,b4,e,k0.soft g,k1.soft g,k2.soft g,k3.soft g,k4.soft g⟩
 |.helpJ,hh=>let ⟨b0,b1,b2,e,k0,k1,k2⟩:=hh;⟨b0,b1,b2,e,k0.soft g,k1.soft g,k2.soft g⟩
 |.wait i,hh=>let ⟨b0,b1,b2,b3,b4,e,k0,k1,k2,k3,k4⟩:=hh;⟨b0,b1,b2,b3,b4,e,k0.soft g,k1.soft g,k2.soft g,k3.soft g,k4.soft g⟩
 |.turns [] r,hh=>let ⟨b0,b1,b2,b3,e,k0,k1,k2,k3⟩:=hh;⟨b0,b1,b2,b3,e,k0.soft g,k1.soft g,k2.soft g,k3.soft g⟩
 |.turns (x::l) r,hh=>let ⟨b0,b1,b2,b3,b4,e,k0,k1,k2,k3,k4⟩:=hh;⟨b0,b1,b2,b3,b4,e,k0.soft g,k1.soft g,k2.soft g,k3.soft g,k4.soft g⟩
 |.commit,hh=>let ⟨b0,b1,b2,e,k0,k1,k2⟩:=hh;⟨b0,b1,b2,e,k0.soft g,k1.soft g,k2.soft g⟩
 |.abort e reason,hh=>let ⟨b0,b1,b2,b3,b4,e,k0,k1,k2,k3,k4⟩:=hh;⟨b0,b1,b2,b3,b4,e,k0.soft g,k1.soft g,k2.soft g,k3.soft g,k4.soft g⟩
end
theorem But.soft {L:Lab} {w w':World} {b:Nat} (hl:L b=some .tmp) (h:But b w w'):Soft L w L w':=⟨by rw[h.size];exact Nat.le_refl _,fun k hk e=>h.block k (by rintro rfl;rw[hl] at e;cases e),fun _ _ e=>e⟩
theorem heap_setCell_same {w:World} {b:Nat} {cs:Array Value} {T:TypeId} (h:w.heap[b]? =some (.cells cs T)) (i:Nat) (v:Value):(w.setCell ⟨b,i,none⟩ v).heap[b]? =some (.cells (cs.setIfInBounds i v) T):=by
 simp only[World.setCell,Array.getElem?_modify,h];simp
theorem heap_setCells6 {w:World} {b:Nat} {a0 a1 a2 a3 a4 a5:Value} {T:TypeId} (h:w.heap[b]? =some (.cells #[a0,a1,a2,a3,a4,a5] T)) (v0 v1 v2 v3 v4 v5:Value):(w.setCells b 0 [v0,v1,v2,v3,v4,v5]).heap[b]? =some (.cells #[v0,v1,v2,v3,v4,v5] T):=by
 have h1:=heap_setCell_same h 0 v0;have h2:=heap_setCell_same h1 1 v1;have h3:=heap_setCell_same h2 2 v2;have h4:=heap_setCell_same h3 3 v3;have h5:=heap_setCell_same h4 4 v4;have h6:=heap_setCell_same h5 5 v5;exact h6
theorem heap_setCells5 {w:World} {b:Nat} {a0 a1 a2 a3 a4:Value} {T:TypeId} (h:w.heap[b]? =some (.cells #[a0,a1,a2,a3,a4] T)) (v0 v1 v2 v3 v4:Value):(w.setCells b 0 [v0,v1,v2,v3,v4]).heap[b]? =some (.cells #[v0,v1,v2,v3,v4] T):=by
 have h1:=heap_setCell_same h 0 v0;have h2:=heap_setCell_same h1 1 v1;have h3:=heap_setCell_same h2 2 v2;have h4:=heap_setCell_same h3 3 v3;have h5:=heap_setCell_same h4 4 v4;exact h5
theorem there_of {w:World} {b:Nat} {cs:Array Value} {T:TypeId} (h:w.heap[b]? =some (.cells cs T)):w.there b 0 cs.size:=by
 intro j hj;rw[Nat.zero_add];refine⟨?_,by simp[World.frozen?,h]⟩;rw[cell_of_row w b j _ _ _ h];simp[hj]
theorem results_cell_tmp_row {P:Program} {fn:Func} {p u:Tmp} {ty:TypeId} (h:fn.results=#[.cell p ty,.tmp u]) (tmps:Array Value) (w:World) (g:Nat) (t:TypeId) (cs:Array Value) (fr:Nat×Nat) (d:TypeDesc)
 (hp:tmps.getD p undef=.pointer (some ⟨g,0,none⟩)) (hg:w.heap[g]? =some (.cells cs t fr))
 (hu:P.underlying ty=some d) (hd:(match d with|.struct _|.array _ _=>true|_=>false)=true) (hi:(P.info? ty).map (·.size)=some cs.size):
 (results fn tmps).run P w=.ok (.tuple #[.agg cs,tmps.getD u undef]) w:=by
 rw[results_cell_tmp h,hp];simp[asAddr,run_loadVar_row w g t ty cs fr d hg hu hd hi,Result.andThen]
theorem copied_nil (w:World) (re rv ro rr:Int) (a:Option Addr) (cap:Nat):
 Calls Tryz.prog 49 #[.agg #[zi re,zi rv,.slice a 0 cap,zi ro,zi rr]] w fun e w'=>e=.returned (.agg #[zi re,zi rv,.slice none 0 0,zi ro,zi rr])∧Below w.heap.size w w':=by
 have hb:Below w.heap.size w (((w.alloc (.cells #[zi re,zi rv,.slice none 0 0,zi ro,zi rr] 49))).alloc (.cells #[zi re,zi rv,.slice none 0 0,zi ro,zi rr] 49)):=(((Below.refl _ _).alloc (Nat.le_refl _) _)).alloc (by simp) _;have HB:=zH hb;clear hb
 cases a with
 |none=>
  go_enter Tryz.func49,Tryz.ntmps49;go_wp2
  (try simp only[Exit.inBlock,Exit.then])
  refine bodyPost_ret (results_cell_row rfl _ _ (w.heap.size+1) 49 #[zi re,zi rv,.slice none 0 0,zi ro,zi rr] _ _ rfl (heap_alloc2_new w _ _) Tryz.underlying49 rfl (by kernel_rfl)) rfl ?_;exact⟨rfl,HB.out⟩
 |some x=>
  go_enter Tryz.func49,Tryz.ntmps49;go_wp2
  (try simp only[Exit.inBlock,Exit.then])
  refine bodyPost_ret (results_cell_row rfl _ _ (w.heap.size+1) 49 #[zi re,zi rv,.slice none 0 0,zi ro,zi rr] _ _ rfl (heap_alloc2_new w _ _) Tryz.underlying49 rfl (by kernel_rfl)) rfl ?_;exact⟨rfl,HB.out⟩
theorem own_at {w:World} {e:TypeId} {n size:Nat} {v:Value} {xs:List Value} (h:w.ownsRow 0 e size v n xs) {j:Nat} {u:Value} (hj:xs[j]? =some u):∃ g cap,v=.slice (some ⟨g,0,none⟩) n cap∧w.cell? ⟨g,j,none⟩=some u:=by
 have hc:=fun g hg=>h.cells (g:=g) hg
 rcases h.2 with ⟨rfl,h0⟩|⟨g,cap,cur,rfl,hb,hg,hnc,hcm,hcs,htake⟩
 · have h1:=h.1
   rw[h0] at h1;have:xs=[]:=by simpa using h1
   rw[this] at hj;simp at hj
 · refine⟨g,cap,rfl,?_⟩
   have:=hc g rfl j u hj;have hadd:(⟨g,0,none⟩:Addr).add j=⟨g,j,none⟩:=by unfold Addr.add;split<;>simp_all
   rw[hadd] at this;exact this
theorem readCs_get (l:List (Nat×Nat×Bool)) (i:Nat) (h:i<l.length):(readCs l)[3*i]? =some (i64 (l.getD i (0,0,false)).1)∧(readCs l)[3*i+1]? =some (u64 (l.getD i (0,0,false)).2.1)∧(readCs l)[3*i+2]? =some (.bool (l.getD i (0,0,false)).2.2):=by
 induction l generalizing i with
 |nil=>simp at h
 |cons x l ih=>
  cases i with
  |zero=>simp[readCs]
  |succ i=>
   have:=ih i (by simpa using h);simp only[readCs,List.flatMap_cons] at this ⊢;have e:∀ k,([i64 x.1,u64 x.2.1,.bool x.2.2]++List.flatMap (fun r=>[i64 r.1,u64 r.2.1,.bool r.2.2]) l)[3*(i+1)+k]? =(List.flatMap (fun r=>[i64 r.1,u64 r.2.1,.bool r.2.2]) l)[3*i+k]? :=by
    intro k;rw[List.getElem?_append_right (by simp;omega)]
    congr 1
    simp;omega
   have e0:=e 0;simp only[Nat.add_zero] at e0;rw[e0,e 1,e 2];exact this
theorem judge_step (t:Txn) (i:Nat) (h:i<t.reads.length) (hn:t.needs (t.reads.getD i (0,0,false))=false):judgeK t i=judgeK t (i+1):=by
 unfold judgeK;have e:t.reads.length - i=(t.reads.length - (i+1))+1:=by omega
 have k:t.need (t.reads.length - i) i=t.need (t.reads.length - (i+1)) (i+1):=by
  rw[e];show (if i<t.reads.length∧t.needs (t.reads.getD i (0,0,false))=false then _ else _)=_;rw[if_pos ⟨h,hn⟩]
 rw[k]
theorem need_stop (t:Txn) (n i:Nat) (h:¬ (i<t.reads.length∧t.needs (t.reads.getD i (0,0,false))=false)):t.need n i=i:=by
 cases n with
 |zero=>rfl
 |succ n=>
  show (if i<t.reads.length∧t.needs (t.reads.getD i (0,0,false))=false then _ else _)=_;rw[if_neg h]
theorem judge_end (t:Txn):judgeK t t.reads.length=waitK t 0:=by
 unfold judgeK;rw[need_stop _ _ _ (by omega),if_pos rfl]
theorem judge_find (t:Txn) (i:Nat) (h:i<t.reads.length) (hn:t.needs (t.reads.getD i (0,0,false))=true):judgeK t i=.start ⟨(t.reads.getD i (0,0,false)).1,t.end_,.judge i (t.reads.getD i (0,0,false)).2.1⟩:=by
 unfold judgeK;rw[need_stop _ _ _ (fun h=>by rw[hn] at h;exact absurd h.2 (by simp)),if_neg (by omega)]
theorem judge_any {A:Book} {σ:St} {w:World} (hR:Rep A σ w) (s:Nat) (t:Txn) (ht:σ.txns.getD s none=some t) (i0:Nat) (hi0:i0≤t.reads.length) (hrl:t.reads.length<1000000):
 Calls Tryz.prog 114 #[.pointer (some ⟨A.be,0,none⟩),.pointer (some ⟨A.bt s,0,none⟩),.pointer (some ⟨A.bc s,0,none⟩),zi (i0:Int)] w (Tells A w s (σ,judgeK t i0)):=by
 obtain⟨r4,g4,f0,f1,f2,f3⟩:=allocs4 hR #[.pointer (some ⟨A.be,0,none⟩)] 32 #[.pointer (some ⟨A.bt s,0,none⟩)] 93 #[.pointer (some ⟨A.bc s,0,none⟩)] 98 #[zi (i0:Int)] 3;have HR:=zH (zA r4 (zA g4 (zA f0 (zA f1 (zA f2 f3)))));have HT:=zH (zA ht (zA hi0 hrl));have HW:=zH hR;have hown:=hR.mem.all (.reads s);rw[mem_reads ht] at hown;obtain⟨av,capv,hv,_⟩:=Ow.own_form hown.1;have HV:=zH hv;clear hR ht hi0 hrl r4 g4 f0 f1 f2 f3 hown hv;go_enter Tryz.func114,Tryz.ntmps114;go_wp2_with fail
 go_loopw [10] (fun _ wr=>∃ i:Nat,i≤t.reads.length∧judgeK t i0=judgeK t i∧Rep A σ wr∧Grow A.L w A.L wr∧Fix A.L wr w.heap.size (.cells #[.pointer (some ⟨A.be,0,none⟩)] 32)∧Fix A.L wr (w.heap.size+1) (.cells #[.pointer (some ⟨A.bt s,0,none⟩)] 93)∧Fix A.L wr (w.heap.size+1+1) (.cells #[.pointer (some ⟨A.bc s,0,none⟩)] 98)∧Fix A.L wr (w.heap.size+1+1+1) (.cells #[zi (i:Int)] 3)) (fun _ wr=>match wr.cell? ⟨w.heap.size+1+1+1,0,none⟩ with|some (.int _ i)=>((t.reads.length:Int) - i).toNat|_=>0)
 case atStart=>
  obtain⟨r4,g4,f0,f1,f2,f3⟩:=HR.out;exact⟨i0,HT.out.2.1,rfl,r4,g4,f0,f1,f2,f3⟩
 case round=>
  obtain⟨i,hi,hj,r,g,f0,f1,f2,f3⟩:=hrel;have c0:=f0.cell 0 (v:=.pointer (some ⟨A.be,0,none⟩)) rfl;have c1:=f1.cell 0 (v:=.pointer (some ⟨A.bt s,0,none⟩)) rfl;have c2:=f2.cell 0 (v:=.pointer (some ⟨A.bc s,0,none⟩)) rfl;have c3:=f3.cell 0 (v:=zi (i:Int)) rfl;have t8:=r.txn HT.out.1 8 (v:=A.vreads s) rfl;have hbase:(wr.cell? ⟨w.heap.size+1+1+1,0,none⟩)=some (zi (i:Int)):=c3;rw[HV.out] at t8
  by_cases hlt:i<t.reads.length
  · have hown:=r.mem.all (.reads s)
    rw[mem_reads HT.out.1] at hown;obtain⟨e0,e1,e2⟩:=readCs_get t.reads i hlt;obtain⟨g0,cap0,hv0,k0⟩:=own_at hown.1 e0;obtain⟨g1,cap1,hv1,k1⟩:=own_at hown.1 e1;obtain⟨g2,cap2,hv2,k2⟩:=own_at hown.1 e2;rw[hv0] at hv1 hv2;obtain rfl:g0=g1:=by simp at hv1;exact hv1.1
    obtain rfl:g0=g2:=by simp at hv2;exact hv2.1
    rw[HV.out] at hv0;obtain⟨rfl,rfl⟩:av=some ⟨g0,0,none⟩∧capv=cap0:=by simpa using hv0
    have HK:Hid (∀ w',Rep A σ w'→Grow A.L wr A.L w'→w'.cell? ⟨w.heap.size+1,0,none⟩=some (.pointer (some ⟨A.bt s,0,none⟩))∧w'.cell? ⟨w.heap.size+1+1+1,0,none⟩=some (zi (i:Int))∧w'.cell? ⟨A.bt s,8,none⟩=some (.slice (some ⟨g0,0,none⟩) t.reads.length capv)∧w'.cell? ⟨g0,3*i,none⟩=some (zi ((t.reads.getD i (0,0,false)).1:Int))∧w'.cell? ⟨g0,3*i+1,none⟩=some (zu ((t.reads.getD i (0,0,false)).2.1:Int))∧w'.cell? ⟨g0,3*i+2,none⟩=some (.bool (t.reads.getD i (0,0,false)).2.2)):=by
     intro w' r' g';have hown':=r'.mem.all (.reads s);rw[mem_reads HT.out.1] at hown';obtain⟨_,_,hv0',k0'⟩:=own_at hown'.1 e0;obtain⟨_,_,hv1',k1'⟩:=own_at hown'.1 e1;obtain⟨_,_,hv2',k2'⟩:=own_at hown'.1 e2;rw[HV.out] at hv0' hv1' hv2';simp at hv0' hv1' hv2';rw[←hv0'.1] at k0';rw[←hv1'.1] at k1';rw[←hv2'.1] at k2';have t8':=r'.txn HT.out.1 8 (v:=A.vreads s) rfl;rw[HV.out] at t8';exact⟨(f1.grow g').cell 0 rfl,(f3.grow g').cell 0 rfl,t8',k0',k1',k2'⟩
    have HN:=zH (fun w' (q:Rep A σ w')=>needs_any q s t HT.out.1 (t.reads.getD i (0,0,false)).1 (t.reads.getD i (0,0,false)).2.1 (t.reads.getD i (0,0,false)).2.2);have HS:Hid (t.needs (t.reads.getD i (0,0,false))=false→judgeK t i=judgeK t (i+1)):=judge_step t i hlt;have HFI:Hid (t.needs (t.reads.getD i (0,0,false))=true→judgeK t i=.start ⟨(t.reads.getD i (0,0,false)).1,t.end_,.judge i (t.reads.getD i (0,0,false)).2.1⟩):=judge_find t i hlt;have HQ:=zH (zA hj (zA r (zA g (zA hlt (zA f0 (zA f1 (zA f2 f3)))))));have HRd:Hid (Rep A σ wr.drew):=r.drew;have HG:Hid (Grow A.L wr A.L wr.drew):=Grow.drew _ _;have b1:decide ((i:Int)<(t.reads.length:Int))=true:=by simpa using hlt
    have b2:decide (i<t.reads.length)=true:=by simpa using hlt
    have b3:((i:Int)<(t.reads.length:Int))=True:=by simpa using hlt
    have n1:IntKind.i64.wrap ((i:Int)+1)=(i:Int)+1:=by rw[IntKind.wrap_i64];have:=HT.out.2.2;omega
    rw[Nat.mul_comm 3] at k0 k1 k2 HK;clear hj r g hi f0 f1 f2 f3 hown e0 e1 e2 hv0 hv1 hv2;generalize hnb:t.needs (t.reads.getD i (0,0,false))=nb at*;generalize (t.reads.getD i (0,0,false)).1=key at*;generalize (t.reads.getD i (0,0,false)).2.1=link at*;generalize (t.reads.getD i (0,0,false)).2.2=got at*;clear hnb
    cases nb with
    |false=>
     clear HFI;go_wp2_with fail
     go_region_held3 (fun w'=>w'.cell? ⟨w.heap.size+1,0,none⟩=some (.pointer (some ⟨A.bt s,0,none⟩))∧w'.cell? ⟨w.heap.size+1+1+1,0,none⟩=some (zi (i:Int))∧w'.cell? ⟨A.bt s,8,none⟩=some (.slice (some ⟨g0,0,none⟩) t.reads.length capv)∧w'.cell? ⟨g0,i*3,none⟩=some (zi (key:Int))∧w'.cell? ⟨g0,i*3+1,none⟩=some (zu (link:Int))∧w'.cell? ⟨g0,i*3+2,none⟩=some (.bool got))
      (first|exact⟨c1,c3,t8,k0,k1,k2⟩|assumption|exact HK.out _ (by assumption) (by assumption))
      (first|(go_at_call 134;refine (HN.out _ HRd.out).mono ?_;rintro e w1 ⟨rfl,hb⟩;have q1:=HRd.out.below hb;have q2:=HG.out.trans (Grow.below (L:=A.L) hb)))
     obtain⟨hj,r,g,hlt,f0,f1,f2,f3⟩:=HQ.out;have F3:=f3.grow q2;have y3:=F3.cell 0 (v:=zi (i:Int)) rfl;have z3:=F3.frozen 0;obtain⟨r5,g5⟩:=HW.out.setNew q1 (g.trans q2) rfl rfl (a:=⟨w.heap.size+1+1+1,0,none⟩) (by simp;omega) F3.1 (zi ((i:Int)+1));have F0:=(f0.grow q2).setOther (a:=⟨w.heap.size+1+1+1,0,none⟩) (by simp<;>omega) (zi ((i:Int)+1));have F1:=(f1.grow q2).setOther (a:=⟨w.heap.size+1+1+1,0,none⟩) (by simp<;>omega) (zi ((i:Int)+1));have F2:=(f2.grow q2).setOther (a:=⟨w.heap.size+1+1+1,0,none⟩) (by simp<;>omega) (zi ((i:Int)+1));have HZ:=zH (zA r5 (zA g5 (zA F0 (zA F1 (zA F2 (F3.setSame (zi ((i:Int)+1))))))));have HB:=zH hbase;clear hj r g hlt f0 f1 f2 f3 F3 r5 g5 F0 F1 F2 hbase;go_wp2_with fail
     go_roundw
     case rel=>
      obtain⟨r5,g5,F0,F1,F2,F3⟩:=HZ.out;exact⟨i+1,by have:=HQ.out.2.2.2.1;omega,HQ.out.1.trans (HS.out trivial),r5,g5,F0,F1,F2,F3⟩
     case measure=>
      rw[HB.out,(HZ.out.2.2.2.2.2).cell 0 (v:=zi ((i:Int)+1)) rfl];have:=HQ.out.2.2.2.1;simp;omega
    |true=>
     clear HS;go_wp2_with fail
     go_region_held3 (fun w'=>w'.cell? ⟨w.heap.size+1,0,none⟩=some (.pointer (some ⟨A.bt s,0,none⟩))∧w'.cell? ⟨w.heap.size+1+1+1,0,none⟩=some (zi (i:Int))∧w'.cell? ⟨A.bt s,8,none⟩=some (.slice (some ⟨g0,0,none⟩) t.reads.length capv)∧w'.cell? ⟨g0,i*3,none⟩=some (zi (key:Int))∧w'.cell? ⟨g0,i*3+1,none⟩=some (zu (link:Int))∧w'.cell? ⟨g0,i*3+2,none⟩=some (.bool got))
      (first|exact⟨c1,c3,t8,k0,k1,k2⟩|assumption|exact HK.out _ (by assumption) (by assumption))
      (first|(go_at_call 134;refine (HN.out _ HRd.out).mono ?_;rintro e w1 ⟨rfl,hb⟩;have q1:=HRd.out.below hb;have q2:=HG.out.trans (Grow.below (L:=A.L) hb)))
     obtain⟨hj,r,g,hlt,f0,f1,f2,f3⟩:=HQ.out;have HX:Hid (∀ n w5,w1.drewN n=w5→Rep A σ w5∧Grow A.L w A.L w5∧Grow A.L wr A.L w5∧w5.cell? ⟨w.heap.size+1,0,none⟩=some (.pointer (some ⟨A.bt s,0,none⟩))∧w5.cell? ⟨w.heap.size+1+1+1,0,none⟩=some (zi (i:Int))∧w5.cell? ⟨A.bt s,8,none⟩=some (.slice (some ⟨g0,0,none⟩) t.reads.length capv)∧w5.cell? ⟨g0,i*3,none⟩=some (zi (key:Int))∧w5.cell? ⟨g0,i*3+1,none⟩=some (zu (link:Int))∧w5.cell? ⟨g0,i*3+2,none⟩=some (.bool got)):=by
      rintro n w5 rfl;obtain⟨x1,x2,x3,x4,x5,x6⟩:=HK.out _ (q1.drewN n) (q2.trans (Grow.drewN _ _ n));exact⟨q1.drewN n,(g.trans q2).trans (Grow.drewN _ _ n),q2.trans (Grow.drewN _ _ n),x1,x2,x3,x4,x5,x6⟩
     have d1:((i:Int)==(t.reads.length:Int))=false:=by simp;omega
     have d2:(i==t.reads.length)=false:=by simp;omega
     have d3:((i:Int)=(t.reads.length:Int))=False:=by simp;omega
     obtain⟨_,_,_,x1,x2,x3,_⟩:=HX.out 0 w1 rfl;have HP:=zH (zA q1 q2);clear hj r g hlt f0 f1 f2 f3 q1 q2 c0 c1 c2 c3 t8 k0 k1 k2 hbase;go_wp2_with fail
     go_quiet (fail)
     generalize hw5:w1.drewN _=w5;obtain⟨r5,g5,gr5,x1,x2,x3,x4,x5,x6⟩:=HX.out _ w5 hw5;obtain⟨y1,y2,y3,y4,y5,y6⟩:=HK.out (w5.alloc (.cells #[zi 0,zu 0,.bool false] 239)) (r5.alloc _) (gr5.trans (Grow.alloc _ _ _));have H5:=zH (zA r5 (zA g5 gr5));clear r5 g5 gr5 hw5;go_wp2_with fail
     go_region
     generalize hw6:(w5.alloc _).drew=w6;obtain⟨_,_,_,hlt,f0,f1,f2,f3⟩:=HQ.out;obtain⟨r7,g7,f4⟩:=allocs1 H5.out.1 #[zi (key:Int),zu (link:Int),.bool got] 239;have g56:Grow A.L w5 A.L w6:=by rw[←hw6];exact g7.trans (Grow.drew _ _)
     have r6:Rep A σ w6:=by rw[←hw6];exact r7.drew
     have F4:Fix A.L w6 w5.heap.size (.cells #[zi (key:Int),zu (link:Int),.bool got] 239):=by rw[←hw6];exact f4.grow (Grow.drew _ _)
     have gq:=(H5.out.2.2).trans g56;have F0:=f0.grow gq;have F1:=f1.grow gq;have F2:=f2.grow gq;have F3:=f3.grow gq;have y0:=F0.cell 0 (v:=.pointer (some ⟨A.be,0,none⟩)) rfl;have y1:=F1.cell 0 (v:=.pointer (some ⟨A.bt s,0,none⟩)) rfl;have y4:=F4.cell 0 (v:=zi (key:Int)) rfl;have yt:=r6.txn HT.out.1 4 (v:=zu (t.end_:Int)) rfl;have gd:=Grow.drew A.L w6;have hf:=find_any r6.drew s key t.end_ (.func (.func 136) #[] #[.pointer (some ⟨w5.heap.size,0,none⟩),.pointer (some ⟨w.heap.size,0,none⟩),.pointer (some ⟨w.heap.size+1,0,none⟩),.pointer (some ⟨w.heap.size+1+1,0,none⟩),.pointer (some ⟨w.heap.size+1+1+1,0,none⟩)]) (.judge i link) ⟨_,_,_,_,_,rfl,⟨_,_,_,F4.grow gd⟩,F0.box.grow gd,F1.box.grow gd,F2.box.grow gd,F3.box.grow gd⟩;have HE:=zH (zA hf ((H5.out.2.1.trans g56).trans gd));clear hlt f0 f1 f2 f3 r7 g7 f4 g56 r6 F4 gq F0 F1 F2 F3 gd hf hw6 x1 x2 x3 x4 x5 x6;go_wp2_with fail;refine wp_region_still_tail 9 (by kernel_rfl) (by kernel_rfl) ?_;simp only[zta,ztb,ztc,ztd]
     repeat still_step
     refine wpStill_nil ?_;change wpList _ _ _ _ _ w6.drew;generalize w6.drew=wd at*;go_wp2_with (go_at_call 106;refine HE.out.1.mono ?_;rintro e w2 ⟨A2,v,rfl,p1,p2,p3,p4⟩);go_ret;rw[HQ.out.1,HFI.out trivial];exact⟨A2,v,rfl,p1,HE.out.2.trans p2,p3,p4⟩
  · obtain rfl:i=t.reads.length:=by omega
    have HQ:=zH (zA hj (zA r g));have HA:Hid (∀ w',Rep A σ w'→Calls Tryz.prog 135 #[.pointer (some ⟨A.be,0,none⟩),.pointer (some ⟨A.bt s,0,none⟩),.pointer (some ⟨A.bc s,0,none⟩),zi 0] w' (Tells A w' s (σ,waitK t 0))):=fun w' q=>wait_any q s t HT.out.1 0
    have HJ:=zH (judge_end t);clear hj r g hi hlt f0 f1 f2 f3;generalize t.reads.length=n at*;have d1:decide ((n:Int)<(n:Int))=false:=by simp
    go_wp2_with fail
    go_quiet (fail)
    generalize hw5:wr.drewN _=w5;have c0:w5.cell? ⟨w.heap.size,0,none⟩=some (.pointer (some ⟨A.be,0,none⟩)):=by rw[←hw5];exact c0
    have c1:w5.cell? ⟨w.heap.size+1,0,none⟩=some (.pointer (some ⟨A.bt s,0,none⟩)):=by rw[←hw5];exact c1
    have c2:w5.cell? ⟨w.heap.size+1+1,0,none⟩=some (.pointer (some ⟨A.bc s,0,none⟩)):=by rw[←hw5];exact c2
    have c3:w5.cell? ⟨w.heap.size+1+1+1,0,none⟩=some (zi (n:Int)):=by rw[←hw5];exact c3
    have t8:w5.cell? ⟨A.bt s,8,none⟩=some (.slice av n capv):=by rw[←hw5];exact t8
    have r5:Rep A σ w5:=by rw[←hw5];exact HQ.out.2.1.drewN _
    have g5:Grow A.L w A.L w5:=by rw[←hw5];exact HQ.out.2.2.trans (Grow.drewN _ _ _)
    have H5:=zH (zA r5 g5);clear r5 g5 hw5;go_wp2_with fail
    go_quiet (fail)
    go_wp2_with (go_at_call 135;refine (HA.out _ (H5.out.1.drewN _)).mono ?_;rintro e w2 ⟨A2,v,rfl,p1,p2,p3,p4⟩);go_ret;rw[HQ.out.1,HJ.out];exact⟨A2,v,rfl,p1,(H5.out.2.trans (Grow.drewN _ _ _)).trans p2,p3,p4⟩
theorem infoPr:(Tryz.prog.info? 134).map (fun i=>(i.zero,i.size,i.bytes))=some (some (.agg #[zi 0,zi 0]),2,16):=by kernel_rfl
theorem pairCs_one:∀ (l:List (Nat×Nat)),∀ u∈pairCs l,u.oneCell'=true
 |[],u,h=>by cases h
 |p::l,u,h=>by
  have e:pairCs (p::l)=zi (p.1:Int)::zi (p.2:Int)::pairCs l:=rfl;rw[e] at h
  rcases List.mem_cons.1 h with rfl|h
  · rfl
  · rcases List.mem_cons.1 h with rfl|h
    · rfl
    · exact pairCs_one l u h
theorem own_but {w w':World} {base:Nat} {v:Value} {n b:Nat} {xs:List Value} {cs:Array Value} {T:TypeId} (h:w.ownsRow base 134 2 v n xs) (hb:But b w w') (hc:w.heap[b]? =some (.cells cs T)) (hT:T≠134):w'.ownsRow base 134 2 v n xs:=by
 rcases h.2 with ⟨e1,e2⟩|⟨g,cap',cur,hv,hb',hg,hx1,hx2,hx3,hx4⟩
 · exact⟨h.1,.inl ⟨e1,e2⟩⟩
 · have hgne:g≠b:=by
    rintro rfl;rw[hc] at hg;simp only[Option.some.injEq,Obj.cells.injEq] at hg;exact hT hg.2.1
   exact⟨h.1,.inr ⟨g,cap',cur,hv,hb',(hb.block g hgne).trans hg,hx1,hx2,hx3,hx4⟩⟩
theorem copied_any (w:World) (re rv ro rr:Int) (a:Option Addr) (n cap:Nat) (ps:List (Nat×Nat)) (hr:Ow.Row w 0 2 (.slice a n cap) (pairCs ps)) (hn:ps.length=n) (hl:n≤1000000):
 Calls Tryz.prog 49 #[.agg #[zi re,zi rv,.slice a n cap,zi ro,zi rr]] w fun e w'=>∃ a' c',e=.returned (.agg #[zi re,zi rv,.slice a' n c',zi ro,zi rr])∧w'.ownsRow w.heap.size 134 2 (.slice a' n c') n (pairCs ps)∧Below w.heap.size w w':=by
 obtain⟨i0,hi,hz0,hz1,hz2⟩:=info_parts infoPr;have HR:=zH hr;have HM:=zH (zA hn hl);obtain⟨W,hW⟩:∃ W,W=(w.alloc (.cells #[zi re,zi rv,.slice a n cap,zi ro,zi rr] 49)).alloc (.cells #[zi 0,zi 0,.slice none 0 0,zi 0,zi 0] 49):=⟨_,rfl⟩
 have hWs:W.heap.size=w.heap.size+1+1:=by rw[hW];simp
 have hWb:Below w.heap.size w W:=by rw[hW];exact (((Below.refl _ _).alloc (Nat.le_refl _) _)).alloc (by simp) _
 have hW0:W.heap[w.heap.size]? =some (.cells #[zi re,zi rv,.slice a n cap,zi ro,zi rr] 49):=by rw[hW,heap_alloc_old _ _ (by simp),heap_alloc_new]
 have hW1:W.heap[w.heap.size+1]? =some (.cells #[zi 0,zi 0,.slice none 0 0,zi 0,zi 0] 49):=by
  have:=heap_alloc_new (w.alloc (.cells #[zi re,zi rv,.slice a n cap,zi ro,zi rr] 49)) (.cells #[zi 0,zi 0,.slice none 0 0,zi 0,zi 0] 49);rw[hW];simpa using this
 have HW:=zH (zA hWs (zA hWb (zA hW0 (zA hW1 (hr.below hWb)))));have HF:Hid (∀ v' w2,w2.ownsRow w.heap.size 134 2 v' n (pairCs ps)→W.grownBy w2 none→∃ a' c',v'=.slice a' n c'∧w2.heap[w.heap.size]? =some (.cells #[zi re,zi rv,.slice a n cap,zi ro,zi rr] 49)∧w2.heap[w.heap.size+1]? =some (.cells #[zi 0,zi 0,.slice none 0 0,zi 0,zi 0] 49)∧w2.cell? ⟨w.heap.size,2,none⟩=some (.slice a n cap)∧w2.frozen? ⟨w.heap.size,2,none⟩=false∧Below w.heap.size w w2):=by
  intro v' w2 q1 q2;obtain⟨a',c',rfl,_⟩:=Ow.own_form q1;have h0:w2.heap[w.heap.size]? =_:=(q2.block _ (by rw[hWs];omega) (by simp)).trans hW0;have h1:w2.heap[w.heap.size+1]? =_:=(q2.block _ (by rw[hWs];omega) (by simp)).trans hW1;refine⟨a',c',rfl,h0,h1,by simp[World.cell?,h0],by simp[World.frozen?,h0],⟨q2.os.trans hWb.os,q2.tape.trans hWb.tape,q2.output.trans hWb.output,Nat.le_trans hWb.size q2.size,fun b hb=>(q2.block b (by rw[hWs];omega) (by simp)).trans (hWb.block b hb)⟩⟩
 have w1c:W.cell? ⟨w.heap.size,2,none⟩=some (.slice a n cap):=by simp[World.cell?,hW0]
 clear hW0 hW1 hWb hr hn hl;go_enter Tryz.func49,Tryz.ntmps49;go_upto_region 1 with fail
 rw[←hW];clear hW;go_upto_region 2 with (refine Ow.wpList_append_row W rfl (.const (.slice none 0 0)) (.tmp 4) 47 rfl w.heap.size 134 i0 _ 2 16 Tryz.underlying47 hi hz0 hz1 hz2 rfl (by decide) (.slice none 0 0) 0 [] rfl (World.ownsRow_nil _ _ _ _) 0 (.slice a n cap) (pairCs ps) rfl HW.out.2.2.2.2 n (by rw[pairCs_len,HM.out.1]) (pairCs_one ps) (by have:=HM.out.2;unfold maxLen;omega) (by have:=HM.out.2;omega) (by rw[HW.out.1];omega) ?_;intro v' w2 q1 q2;rw[List.nil_append,Nat.zero_add] at q1;obtain⟨a',c',rfl,f0,f1,f2,f3,f4⟩:=HF.out _ _ q1 q2;have HQ:=zH (zA q1 (zA f0 (zA f1 f4)));clear q1 q2 f0 f1 f4)
 generalize hw3:w2.setCell ⟨w.heap.size,2,none⟩ (.slice a' n c')=w3 at*;obtain⟨q1,f0,f1,f4⟩:=HQ.out;have g0:w3.heap[w.heap.size]? =some (.cells #[zi re,zi rv,.slice a' n c',zi ro,zi rr] 49):=by rw[←hw3];exact heap_setCell_same f0 2 _
 have g1:w3.heap[w.heap.size+1]? =some (.cells #[zi 0,zi 0,.slice none 0 0,zi 0,zi 0] 49):=by rw[←hw3,Below.heap_setCell _ _ _ _ (by simp)];exact f1
 have gb:Below w.heap.size w w3:=by rw[←hw3];exact⟨f4.os,f4.tape,f4.output,by simpa [World.setCell] using f4.size,fun b hb=>(Below.heap_setCell _ _ _ _ (by rintro rfl;simp at hb)).trans (f4.block b hb)⟩
 have go:w3.ownsRow w.heap.size 134 2 (.slice a' n c') n (pairCs ps):=by
  rw[←hw3];exact own_but q1 (But.setCell w2 ⟨w.heap.size,2,none⟩ _) f0 (by decide)
 have HG:=zH (zA g0 (zA (there_of g1) (zA gb (zA go g1))));have y0:w3.cell? ⟨w.heap.size,0,none⟩=some (zi re):=by simp[World.cell?,g0]
 have y1:w3.cell? ⟨w.heap.size,1,none⟩=some (zi rv):=by simp[World.cell?,g0]
 have y2:w3.cell? ⟨w.heap.size,2,none⟩=some (.slice a' n c'):=by simp[World.cell?,g0]
 have y3:w3.cell? ⟨w.heap.size,3,none⟩=some (zi ro):=by simp[World.cell?,g0]
 have y4:w3.cell? ⟨w.heap.size,4,none⟩=some (zi rr):=by simp[World.cell?,g0]
 clear q1 f0 f1 f4 g0 g1 gb go HQ HF f2 f3 w1c;go_wp2_with (refine wpList_store_mid rfl 49 (.tmp 2) (.tmp 7) rfl (w.heap.size+1) 0 #[zi re,zi rv,.slice a' n c',zi ro,zi rr] rfl rfl HG.out.2.1 (by kernel_rfl) (by simp[Value.oneCell']) ?_;generalize hws:World.setCells _ _ _ _=ws);have hfin:=heap_setCells5 HG.out.2.2.2.2 (zi re) (zi rv) (.slice a' n c') (zi ro) (zi rr);have hbut:=But.setCells (w.heap.size+1) [zi re,zi rv,.slice a' n c',zi ro,zi rr] 0 w3;rw[show w3.setCells (w.heap.size+1) 0 [zi re,zi rv,.slice a' n c',zi ro,zi rr]=ws from hws] at hbut hfin;refine bodyPost_ret (results_cell_row rfl _ _ (w.heap.size+1) 49 #[zi re,zi rv,.slice a' n c',zi ro,zi rr] _ _ rfl hfin Tryz.underlying49 rfl (by kernel_rfl)) rfl ?_;exact⟨a',c',rfl,own_but HG.out.2.2.2.1 hbut HG.out.2.2.2.2 (by decide),⟨hbut.os.trans HG.out.2.2.1.os,hbut.tape.trans HG.out.2.2.1.tape,hbut.output.trans HG.out.2.2.1.output,by rw[hbut.size];exact HG.out.2.2.1.size,fun b hb=>(hbut.block b (by omega)).trans (HG.out.2.2.1.block b hb)⟩⟩
theorem prow_of_own {L:Lab} {w:World} {base:Nat} {a:Option Addr} {n c:Nat} {xs:List Value} (h:w.ownsRow base 134 2 (.slice a n c) n xs) (hL:∀ b,base≤b→b<w.heap.size→L b=none):PRow L w (.slice a n c) xs:=by
 obtain⟨a',c',e,h1,h2,h3⟩:=Ow.own_form h;obtain⟨rfl,rfl⟩:a=a'∧c=c':=by simpa using e
 refine⟨⟨a,n,c,rfl,h.1,h1,by unfold maxLen;omega,?_⟩,?_⟩
 · rcases h.2 with ⟨h0,hn⟩|⟨g,cap',cur,hv,hb,hg,hnc,hcm,hcs,htake⟩
   · exact .inl (by first|exact h0|omega)
   · obtain⟨rfl,rfl⟩:a=some ⟨g,0,none⟩∧c=cap':=by simpa using hv
     refine .inr ⟨g,0,rfl,hL g (h.lt g rfl).1 (h.lt g rfl).2,(h.lt g rfl).2,fun j hj=>?_⟩;rw[Nat.zero_add];exact h.cellAt j hj
 · intro g off n' cap hv
   rcases h.2 with ⟨h0,hn⟩|⟨g',cap',cur,hv',hb,hg,hnc,hcm,hcs,htake⟩
   · obtain⟨_,rfl,_⟩:a=some ⟨g,off,none⟩∧n=n'∧c=cap:=by simpa using hv
     exact .inl (by first|exact h0|omega)
   · rw[hv'] at hv
     simp only[Value.slice.injEq,Option.some.injEq,Addr.mk.injEq,and_true] at hv;obtain⟨⟨rfl,_⟩,_⟩:=hv;exact .inr ⟨cur,hg⟩
end Go.Proofs.YtpkenfnmkpmapaaGreat.Em
