import Derived.Laws.ResultCell
import Derived.Laws.Rows
import Derived.Test.YtpkenfnmkpmapaaGreatQh8
import Derived.Deep.Cut
namespace Go.Proofs.YtpkenfnmkpmapaaGreat.Em
open Go.ChangeShapes Go.WideShapes Go.ChangeAt Go.RowKit En
set_option linter.unusedVariables false
set_option linter.unusedSimpArgs false
set_option maxRecDepth 100000
set_option maxHeartbeats 1600000
def Book.tmp (A:Book) (b:Nat):Book:={A with L:=lab1 A.L b .tmp}
theorem mem_tmp (A:Book) (σ:St) (b:Nat) (q:Role):memOf (A.tmp b) σ q=memOf A σ q:=by cases q<;>rfl
theorem Rep.newTmp {A:Book} {σ:St} {w:World} (h:Rep A σ w) (o:Obj):Rep (A.tmp w.heap.size) σ (w.alloc o)∧Grow A.L w (A.tmp w.heap.size).L (w.alloc o)∧(A.tmp w.heap.size).L w.heap.size=some .tmp∧(w.alloc o).heap[w.heap.size]? =some o:=by
 have g:Grow A.L w (A.tmp w.heap.size).L (w.alloc o):=(Grow.alloc A.L w o).lab1 (Nat.le_refl _) _;refine⟨⟨⟨fun r=>?_,fun b hb=>?_⟩,h.ev.grow g,h.sl,h.nw,h.nt,h.nv,h.n8,h.nc⟩,g,lab1_same _ _ _,heap_alloc_new w o⟩
 · rw[mem_tmp]
   exact (h.mem.all r).frame (fun b hb _=>Below.heap_alloc w o b hb) (fun b hb=>lab1_other (by omega))
 · have:w.heap.size+1≤b:=by simpa using hb
   show lab1 A.L w.heap.size .tmp b=none;rw[lab1_other (by omega)];exact h.mem.fresh b (by omega)
theorem tmp_grow {L L':Lab} {w w':World} {b:Nat} {o:Obj} (h:L b=some .tmp∧w.heap[b]? =some o) (g:Grow L w L' w'):L' b=some .tmp∧w'.heap[b]? =some o:=⟨(g.lab b (lt_of h.2)).trans h.1,(g.keep b (lt_of h.2) h.1).trans h.2⟩
structure But (b:Nat) (w w':World):Prop where
 os:w'.os=w.os
 tape:w'.tape=w.tape
 output:w'.output=w.output
 size:w'.heap.size=w.heap.size
 block:∀ k,k≠b→w'.heap[k]? =w.heap[k]?
theorem But.setCell (w:World) (a:Addr) (v:Value):But a.block w (w.setCell a v):=⟨rfl,rfl,rfl,by simp[World.setCell],fun k hk=>Below.heap_setCell _ _ _ _ hk⟩
theorem But.trans {b:Nat} {w w1 w2:World} (h:But b w w1) (k:But b w1 w2):But b w w2:=⟨k.os.trans h.os,k.tape.trans h.tape,k.output.trans h.output,k.size.trans h.size,fun j hj=>(k.block j hj).trans (h.block j hj)⟩
theorem But.setCells (b:Nat):∀ (vs:List Value) (o:Nat) (w:World),But b w (w.setCells b o vs)
 |[],_,w=>⟨rfl,rfl,rfl,rfl,fun _ _=>rfl⟩
 |v::vs,o,w=>(But.setCell w ⟨b,o,none⟩ v).trans (But.setCells b vs (o+1) (w.setCell ⟨b,o,none⟩ v))
section
variable {L:Lab} {w w':World} {b:Nat} (hl:L b=some .tmp) (h:But b w w')
include hl h
theorem FRow.but {size:Nat} {v:Value} {xs:List Value} (f:FRow L w size v xs):FRow L w' size v xs:=by
 obtain⟨ad,n,cap,rfl,e2,e3,e4,e5⟩:=f;refine⟨ad,n,cap,rfl,e2,e3,e4,?_⟩
 rcases e5 with h0|⟨g,off,rfl,e7,e8,e9⟩
 · exact .inl h0
 · refine .inr ⟨g,off,rfl,e7,by rw[h.size];exact e8,fun j hj=>?_⟩
   rw[World.cell?_of_block (w:=w) (a:=⟨g,off+j,none⟩) (h.block g (by rintro rfl;rw[hl] at e7;cases e7))];exact e9 j hj
theorem PRow.but {v:Value} {xs:List Value} (f:PRow L w v xs):PRow L w' v xs:=by
 refine⟨f.1.but hl h,fun g off n cap hv=>?_⟩
 rcases f.2 g off n cap hv with h0|⟨cs,hc⟩
 · exact .inl h0
 · by_cases hn:n=0
   · exact .inl hn
   · obtain⟨ad,n',cap',e1,e2,e3,e4,e5⟩:=f.1
     obtain⟨rfl,rfl,rfl⟩:ad=some ⟨g,off,none⟩∧n'=n∧cap'=cap:=by rw[hv] at e1;simp at e1;exact⟨e1.1.symm,e1.2.1.symm,e1.2.2.symm⟩
     obtain⟨g',off',e6,e7,_⟩:=e5.resolve_left hn;obtain⟨rfl,rfl⟩:g=g'∧off=off':=by simpa using e6
     exact .inr ⟨cs,(h.block g (by rintro rfl;rw[hl] at e7;cases e7)).trans hc⟩
theorem Evs.but:∀ {l:List Ev} {xs:List Value},Evs L w l xs→Evs L w' l xs
 |[],_,f=>f
 |_::_,_,⟨vp,ys,h1,h2,h3⟩=>⟨vp,ys,h1,h2.but hl h,Evs.but h3⟩
end
theorem Rep.but {A:Book} {σ:St} {w w':World} {b:Nat} (hR:Rep A σ w) (hl:A.L b=some .tmp) (h:But b w w'):Rep A σ w':=by
 refine⟨⟨fun r=>?_,fun k hk=>hR.mem.fresh k (by rw[←h.size];exact hk)⟩,hR.ev.but hl h,hR.sl,hR.nw,hR.nt,hR.nv,hR.n8,hR.nc⟩
 by_cases hr:r=.tmp
 · subst hr;trivial
 · refine (hR.mem.all r).frame (fun k hk hk'=>h.block k ?_) (fun _ _=>rfl)
   rintro rfl;rw[hl] at hk';exact hr (Option.some.inj hk').symm
theorem Grow.but {L L':Lab} {w w1 w2:World} {b:Nat} (g:Grow L w L' w1) (hb:w.heap.size≤b) (h:But b w1 w2):Grow L w L' w2:=
 ⟨h.os.trans g.os,h.tape.trans g.tape,h.output.trans g.output,by rw[h.size];exact g.size,fun k hk hl=>(h.block k (by omega)).trans (g.block k hk hl),g.lab,fun k hk hl=>(h.block k (by omega)).trans (g.keep k hk hl)⟩
structure Soft (L:Lab) (w:World) (L':Lab) (w':World):Prop where
 size:w.heap.size≤w'.heap.size
 block:∀ b,b<w.heap.size→L b=none→w'.heap[b]? =w.heap[b]?
 lab:∀ b,b<w.heap.size→L b=none→L' b=none
section
variable {p:KP} {L L':Lab} {w w':World}
theorem Fix.soft {b:Nat} {o:Obj} (h:Fix L w b o) (g:Soft L w L' w'):Fix L' w' b o:=⟨g.lab b (lt_of h.2) h.1,(g.block b (lt_of h.2) h.1).trans h.2⟩
theorem Box.soft {b:Nat} {v:Value} (h:Box L w b v) (g:Soft L w L' w'):Box L' w' b v:=let ⟨T,h⟩:=h;⟨T,h.soft g⟩
theorem FRow.soft {size:Nat} {v:Value} {xs:List Value} (h:FRow L w size v xs) (g:Soft L w L' w'):FRow L' w' size v xs:=by
 obtain⟨a,n,cap,h1,h2,h3,h4,h5⟩:=h;refine⟨a,n,cap,h1,h2,h3,h4,?_⟩
 rcases h5 with h5|⟨b,off,e1,e2,e3,e4⟩
 · exact .inl h5
 · refine .inr ⟨b,off,e1,g.lab b e3 e2,Nat.lt_of_lt_of_le e3 g.size,fun j hj=>?_⟩
   rw[World.cell?_of_block (w:=w) (a:=⟨b,off+j,none⟩) (g.block b e3 e2)];exact e4 j hj
theorem SRep.soft {e:Nat} {L L':Lab} {w w':World} {v:Value} (g:Soft L w L' w'):∀ {k:Option S},SRep e L w v k→SRep e L' w' v k
 |none,h=>h
 |some .now,h=>h
 |some (.live s),h=>let ⟨b0,b1,e,k0,k1⟩:=h;⟨b0,b1,e,k0.soft g,k1.soft g⟩
 |some (.head key),h=>let ⟨b0,b1,e,k0,k1⟩:=h;⟨b0,b1,e,k0.soft g,k1.soft g⟩
 |some (.visit key ahead link),h=>let ⟨b0,b1,b2,b3,e,k0,k1,k2,k3⟩:=h;⟨b0,b1,b2,b3,e,k0.soft g,k1.soft g,k2.soft g,k3.soft g⟩
 |some (.maker key ahead link id),h=>let ⟨b0,b1,b2,b3,b4,e,k0,k1,k2,k3,k4⟩:=h;⟨b0,b1,b2,b3,b4,e,k0.soft g,k1.soft g,k2.soft g,k3.soft g,k4.soft g⟩
 |some (.garbage key ahead link b),h=>let ⟨b0,b1,b2,b3,b4,e,k0,k1,k2,k3,k4⟩:=h;⟨b0,b1,b2,b3,b4,e,k0.soft g,k1.soft g,k2.soft g,k3.soft g,k4.soft g⟩
 |some (.on key link),h=>let ⟨b0,b1,b2,e,k0,k1,k2⟩:=h;⟨b0,b1,b2,e,k0.soft g,k1.soft g,k2.soft g⟩
 |some (.unlink key ahead link),h=>let ⟨b0,b1,b2,b3,e,k0,k1,k2,k3⟩:=h;⟨b0,b1,b2,b3,e,k0.soft g,k1.soft g,k2.soft g,k3.soft g⟩
 |some (.cut key ahead link nx),h=>let ⟨b0,b1,b2,b3,b4,e,k0,k1,k2,k3,k4⟩:=h;⟨b0,b1,b2,b3,b4,e,k0.soft g,k1.soft g,k2.soft g,k3.soft g,k4.soft g⟩
theorem SwRep.soft {A A':Book} {σ:St} {w w':World} (h:SwRep A σ w) (e:A'.bef=A.bef) (g:Soft A.L w A'.L w'):SwRep A' σ w':=
 ⟨by rw[bef_be e,bef_sv e];exact h.sw.soft g,h.cu.keep e⟩
theorem ResBox.soft {b:Nat} {r:Res} (h:ResBox p L w b r) (g:Soft L w L' w'):ResBox p L' w' b r:=let ⟨vp,T,h1,h2⟩:=h;⟨vp,T,h1.soft g,h2⟩
theorem StampBox.soft {b n:Nat} (h:StampBox L w b n) (g:Soft L w L' w'):StampBox L' w' b n:=let ⟨T,h1⟩:=h;⟨T,h1.soft g⟩
theorem SeenBox.soft {b n:Nat} (h:SeenBox L w b n) (g:Soft L w L' w'):SeenBox L' w' b n:=let ⟨T,k,q,h1⟩:=h;⟨T,k,q,h1.soft g⟩
theorem HeadBox.soft {b n:Nat} {x:Bool} (h:HeadBox L w b x n) (g:Soft L w L' w'):HeadBox L' w' b x n:=let ⟨v,h1,h2⟩:=h;⟨v,h1.soft g,h2.soft g⟩
theorem ListBox.soft {b:Nat} {l:List Trn} (h:ListBox L w b l) (g:Soft L w L' w'):ListBox L' w' b l:=let ⟨v,h1,h2⟩:=h;⟨v,h1.soft g,h2.soft g⟩
theorem TellBox.soft {b k:Nat} (h:TellBox p L w b k) (g:Soft L w L' w'):TellBox p L' w' b k:=let ⟨v,h1,c0,c1,e,k0,k1⟩:=h;⟨v,h1.soft g,c0,c1,e,k0.soft g,k1.soft g⟩
theorem NextBox.soft {b l1 l2 l3:Nat} (h:NextBox p L w b l1 l2 l3) (g:Soft L w L' w'):NextBox p L' w' b l1 l2 l3:=let ⟨v,h1,c0,c1,c2,c3,c4,c5,e,k0,k1,k2,k3,k4,k5⟩:=h;⟨v,h1.soft g,c0,c1,c2,c3,c4,c5,e,k0.soft g,k1.soft g,k2.soft g,k3.soft g,k4.soft g,k5.soft g⟩
theorem TurnBox.soft {b l1 l2:Nat} (h:TurnBox p L w b l1 l2) (g:Soft L w L' w'):TurnBox p L' w' b l1 l2:=let ⟨v,h1,c0,c1,c2,c3,c4,e,k0,k1,k2,k3,k4⟩:=h;⟨v,h1.soft g,c0,c1,c2,c3,c4,e,k0.soft g,k1.soft g,k2.soft g,k3.soft g,k4.soft g⟩
theorem ThnRep.soft {v:Value} {key:Nat} {t:Thn} (h:ThnRep p L w v key t) (g:Soft L w L' w'):ThnRep p L' w' v key t:=
 match t,h with
 |.get,hh=>let ⟨b0,b1,b2,b3,e,k0,k1,k2,k3⟩:=hh;⟨b0,b1,b2,b3,e,k0.soft g,k1.soft g,k2.soft g,k3.soft g⟩
 |.scan k,hh=>let ⟨b0,b1,b2,b3,b4,e,k0,k1,k2,k3,k4⟩:=hh;⟨b0,b1,b2,b3,b4,e,k0.soft g,k1.soft g,k2.soft g,k3.soft g,k4.soft g⟩
 |.change,hh=>let ⟨b0,b1,b2,b3,e,k0,k1,k2,k3⟩:=hh;⟨b0,b1,b2,b3,e,k0.soft g,k1.soft g,k2.soft g,k3.soft g⟩
 |.judge i l,hh=>let ⟨b0,b1,b2,b3,b4,e,k0,k1,k2,k3,k4⟩:=hh;⟨b0,b1,b2,b3,b4,e,k0.soft g,k1.soft g,k2.soft g,k3.soft g,k4.soft g⟩
theorem HuntAt.soft {b:Nat} {h:Hunt} (hh:HuntAt p L w b h) (g:Soft L w L' w'):HuntAt p L' w' b h:=let ⟨v,T,h1,h2⟩:=hh;⟨v,T,h1.soft g,h2.soft g⟩
theorem HuntBox.soft {b:Nat} {h:Hunt} (hh:HuntBox p L w b h) (g:Soft L w L' w'):HuntBox p L' w' b h:=let ⟨v,h1,h2⟩:=hh;⟨v,h1.soft g,h2.soft g⟩
theorem KRep.soft {v:Value} {k:K} (h:KRep p L w v k) (g:Soft L w L' w'):KRep p L' w' v k:=
 match k,h with
 |.start _,⟨bh,e,h1⟩=>⟨bh,e,h1.soft g⟩
 |.fin r,hh=>let ⟨b0,b1,b2,e,k0,k1,k2⟩:=hh;⟨b0,b1,b2,e,k0.soft g,k1.soft g,k2.soft g⟩
 |.visit h link,hh=>let ⟨b0,b1,e,k0,k1⟩:=hh;⟨b0,b1,e,k0.soft g,k1.soft g⟩
 |.older h link,hh=>let ⟨b0,b1,e,k0,k1⟩:=hh;⟨b0,b1,e,k0.soft g,k1.soft g⟩
 |.maker h link id,hh=>let ⟨b0,b1,b2,e,k0,k1,k2⟩:=hh;⟨b0,b1,b2,e,k0.soft g,k1.soft g,k2.soft g⟩
 |.ended h link mb,hh=>let ⟨b0,b1,b2,e,k0,k1,k2⟩:=hh;⟨b0,b1,b2,e,k0.soft g,k1.soft g,k2.soft g⟩
 |.ender h link mb id,hh=>let ⟨b0,b1,b2,b3,e,k0,k1,k2,k3⟩:=hh;⟨b0,b1,b2,b3,e,k0.soft g,k1.soft g,k2.soft g,k3.soft g⟩
 |.seen h link mb,hh=>let ⟨b0,b1,b2,e,k0,k1,k2⟩:=hh;⟨b0,b1,b2,e,k0.soft g,k1.soft g,k2.soft g⟩
 |.again end_,hh=>let ⟨b0,b1,b2,b3,e,k0,k1,k2,k3⟩:=hh;⟨b0,b1,b2,b3,e,k0.soft g,k1.soft g,k2.soft g,k3.soft g⟩
 |.own link,hh=>let ⟨b0,b1,b2,b3,e,k0,k1,k2,k3⟩:=hh;⟨b0,b1,b2,b3,e,k0.soft g,k1.soft g,k2.soft g,k3.soft g⟩
 |.ownTxn link w1 id,hh=>let ⟨b0,b1,b2,b3,b4,b5,e,k0,k1,k2,k3,k4,k5⟩:=hh;⟨b0,b1,b2,b3,b4,b5,e,k0.soft g,k1.soft g,k2.soft g,k3.soft g,k4.soft g,k5.soft g⟩
 |.claim link w1,hh=>let ⟨b0,b1,b2,b3,b4,e,k0,k1,k2,k3,k4⟩:=hh;⟨b0,b1,b2,b3,b4,e,k0.soft g,k1.soft g,k2.soft g,k3.soft g,k4.soft g⟩
 |.fresh link,hh=>let ⟨b0,b1,b2,b3,e,k0,k1,k2,k3⟩:=hh;⟨b0,b1,b2,b3,e,k0.soft g,k1.soft g,k2.soft g,k3.soft g⟩
 |.next link head at_,hh=>let ⟨b0,b1,b2,b3,b4,b5,e,k0,k1,k2,k3,k4,k5⟩:=hh;⟨b0,b1,b2,b3,b4,b5,e,k0.soft g,k1.soft g,k2.soft g,k3.soft g,k4.soft g,k5.soft g⟩
 |.free link head at_,hh=>let ⟨b0,b1,b2,b3,b4,b5,e,k0,k1,k2,k3,k4,k5⟩:=hh;⟨b0,b1,b2,b3,b4,b5,e,k0.soft g,k1.soft g,k2.soft g,k3.soft g,k4.soft g,k5.soft g⟩
 |.freeTxn link head at_ id,hh=>let ⟨b0,b1,b2,b3,b4,b5,e,k0,k1,k2,k3,k4,k5⟩:=hh;⟨b0,b1,b2,b3,b4,b5,e,k0.soft g,k1.soft g,k2.soft g,k3.soft g,k4.soft g,k5.soft g⟩
 |.slotB x link head,hh=>let ⟨b0,b1,b2,b3,b4,b5,e,k0,k1,k2,k3,k4,k5⟩:=hh;⟨b0,b1,b2,b3,b4,b5,e,k0.soft g,k1.soft g,k2.soft g,k3.soft g,k4.soft g,k5.soft g⟩
 |.slotE x link head,hh=>let ⟨b0,b1,b2,b3,b4,b5,e,k0,k1,k2,k3,k4,k5⟩:=hh;⟨b0,b1,b2,b3,b4,b5,e,k0.soft g,k1.soft g,k2.soft g,k3.soft g,k4.soft g,k5.soft g⟩
 |.push link head,hh=>let ⟨b0,b1,b2,b3,b4,e,k0,k1,k2,k3,k4⟩:=hh;⟨b0,b1,b2,b3,b4,e,k0.soft g,k1.soft g,k2.soft g,k3.soft g,k4.soft g⟩
 |.pushC link head,hh=>let ⟨b0,b1,b2,b3,b4,e,k0,k1,k2,k3,k4⟩:=hh;⟨b0,b1,b2,b3,b4,e,k0.soft g,k1.soft g,k2.soft g,k3.soft g,k4.soft g⟩
 |.over link,hh=>let ⟨b0,b1,b2,b3,b4,e,k0,k1,k2,k3,k4⟩:=hh;⟨b0,b1,b2,b3,b4,e,k0.soft g,k1.soft g,k2.soft g,k3.soft g,k4.soft g⟩
 |.overN link head,hh=>let ⟨b0,b1,b2,b3,b4,b5,e,k0,k1,k2,k3,k4,k5⟩:=hh;⟨b0,b1,b2,b3,b4,b5,e,k0.soft g,k1.soft g,k2.soft g,k3.soft g,k4.soft g,k5.soft g⟩
 |.overC link head,hh=>let ⟨b0,b1,b2,b3,b4,b5,e,k0,k1,k2,k3,k4,k5⟩:=hh;⟨b0,b1,b2,b3,b4,b5,e,k0.soft g,k1.soft g,k2.soft g,k3.soft g,k4.soft g,k5.soft g⟩
 |.draw,hh=>let ⟨b0,b1,b2,e,k0,k1,k2⟩:=hh;⟨b0,b1,b2,e,k0.soft g,k1.soft g,k2.soft g⟩
 |.drawH w1 now,hh=>let ⟨b0,b1,b2,e,k0,k1,k2⟩:=hh;⟨b0,b1,b2,e,k0.soft g,k1.soft g,k2.soft g⟩
 |.turn w1 now,hh=>let ⟨b0,b1,b2,b3,b4,e,k0,k1,k2,k3,k4⟩:=hh;⟨b0,b1,b2,b3,b4,e,k0.soft g,k1.soft g,k2.soft g,k3.soft g,k4.soft g⟩
 |.helpJ,hh=>let ⟨b0,b1,b2,e,k0,k1,k2⟩:=hh;⟨b0,b1,b2,e,k0.soft g,k1.soft g,k2.soft g⟩
 |.wait i,hh=>let ⟨b0,b1,b2,b3,b4,e,k0,k1,k2,k3,k4⟩:=hh;⟨b0,b1,b2,b3,b4,e,k0.soft g,k1.soft g,k2.soft g,k3.soft g,k4.soft g⟩
 |.turns [] r,hh=>let ⟨b0,b1,b2,b3,e,k0,k1,k2,k3⟩:=hh;⟨b0,b1,b2,b3,e,k0.soft g,k1.soft g,k2.soft g,k3.soft g⟩
 |.turns (x::l) r,hh=>let ⟨b0,b1,b2,b3,b4,e,k0,k1,k2,k3,k4⟩:=hh;⟨b0,b1,b2,b3,b4,e,k0.soft g,k1.soft g,k2.soft g,k3.soft g,k4.soft g⟩
 |.commit,hh=>let ⟨b0,b1,b2,e,k0,k1,k2⟩:=hh;⟨b0,b1,b2,e,k0.soft g,k1.soft g,k2.soft g⟩
 |.abort e reason,hh=>let ⟨b0,b1,b2,b3,b4,e,k0,k1,k2,k3,k4⟩:=hh;⟨b0,b1,b2,b3,b4,e,k0.soft g,k1.soft g,k2.soft g,k3.soft g,k4.soft g⟩
end
theorem But.soft {L:Lab} {w w':World} {b:Nat} (hl:L b=some .tmp) (h:But b w w'):Soft L w L w':=⟨by rw[h.size];exact Nat.le_refl _,fun k hk e=>h.block k (by rintro rfl;rw[hl] at e;cases e),fun _ _ e=>e⟩
theorem heap_setCell_same {w:World} {b:Nat} {cs:Array Value} {T:TypeId} (h:w.heap[b]? =some (.cells cs T)) (i:Nat) (v:Value):(w.setCell ⟨b,i,none⟩ v).heap[b]? =some (.cells (cs.setIfInBounds i v) T):=by
 simp only[World.setCell,Array.getElem?_modify,h];simp
theorem heap_setCells6 {w:World} {b:Nat} {a0 a1 a2 a3 a4 a5:Value} {T:TypeId} (h:w.heap[b]? =some (.cells #[a0,a1,a2,a3,a4,a5] T)) (v0 v1 v2 v3 v4 v5:Value):(w.setCells b 0 [v0,v1,v2,v3,v4,v5]).heap[b]? =some (.cells #[v0,v1,v2,v3,v4,v5] T):=by
 have h1:=heap_setCell_same h 0 v0;have h2:=heap_setCell_same h1 1 v1;have h3:=heap_setCell_same h2 2 v2;have h4:=heap_setCell_same h3 3 v3;have h5:=heap_setCell_same h4 4 v4;have h6:=heap_setCell_same h5 5 v5;exact h6
theorem heap_setCells5 {w:World} {b:Nat} {a0 a1 a2 a3 a4:Value} {T:TypeId} (h:w.heap[b]? =some (.cells #[a0,a1,a2,a3,a4] T)) (v0 v1 v2 v3 v4:Value):(w.setCells b 0 [v0,v1,v2,v3,v4]).heap[b]? =some (.cells #[v0,v1,v2,v3,v4] T):=by
 have h1:=heap_setCell_same h 0 v0;have h2:=heap_setCell_same h1 1 v1;have h3:=heap_setCell_same h2 2 v2;have h4:=heap_setCell_same h3 3 v3;have h5:=heap_setCell_same h4 4 v4;exact h5
theorem there_of {w:World} {b:Nat} {cs:Array Value} {T:TypeId} (h:w.heap[b]? =some (.cells cs T)):w.there b 0 cs.size:=by
 intro j hj;rw[Nat.zero_add];refine⟨?_,by simp[World.frozen?,h]⟩;rw[cell_of_row w b j _ _ _ h];simp[hj]
theorem results_cell_tmp_row {P:Program} {fn:Func} {p u:Tmp} {ty:TypeId} (h:fn.results=#[.cell p ty,.tmp u]) (tmps:Array Value) (w:World) (g:Nat) (t:TypeId) (cs:Array Value) (fr:Nat×Nat) (d:TypeDesc)
 (hp:tmps.getD p undef=.pointer (some ⟨g,0,none⟩)) (hg:w.heap[g]? =some (.cells cs t fr))
 (hu:P.underlying ty=some d) (hd:(match d with|.struct _|.array _ _=>true|_=>false)=true) (hi:(P.info? ty).map (·.size)=some cs.size):
 (results fn tmps).run P w=.ok (.tuple #[.agg cs,tmps.getD u undef]) w:=by
 rw[results_cell_tmp h,hp];simp[asAddr,run_loadVar_row w g t ty cs fr d hg hu hd hi,Result.andThen]
theorem copied_nil (w:World) (re rv ro rr:Int) (a:Option Addr) (cap:Nat):
 Calls Tryz.prog 49 #[.agg #[zi re,zi rv,.slice a 0 cap,zi ro,zi rr]] w fun e w'=>e=.returned (.agg #[zi re,zi rv,.slice none 0 0,zi ro,zi rr])∧Below w.heap.size w w':=by
 have hb:Below w.heap.size w (((w.alloc (.cells #[zi re,zi rv,.slice none 0 0,zi ro,zi rr] 49))).alloc (.cells #[zi re,zi rv,.slice none 0 0,zi ro,zi rr] 49)):=(((Below.refl _ _).alloc (Nat.le_refl _) _)).alloc (by simp) _;have HB:=zH hb;clear hb
 cases a with
 |none=>
  go_enter Tryz.func49,Tryz.ntmps49;go_wp2
  (try simp only[Exit.inBlock,Exit.then])
  refine bodyPost_ret (results_cell_row rfl _ _ (w.heap.size+1) 49 #[zi re,zi rv,.slice none 0 0,zi ro,zi rr] _ _ rfl (heap_alloc2_new w _ _) Tryz.underlying49 rfl (by kernel_rfl)) rfl ?_;exact⟨rfl,HB.out⟩
 |some x=>
  go_enter Tryz.func49,Tryz.ntmps49;go_wp2
  (try simp only[Exit.inBlock,Exit.then])
  refine bodyPost_ret (results_cell_row rfl _ _ (w.heap.size+1) 49 #[zi re,zi rv,.slice none 0 0,zi ro,zi rr] _ _ rfl (heap_alloc2_new w _ _) Tryz.underlying49 rfl (by kernel_rfl)) rfl ?_;exact⟨rfl,HB.out⟩
end Go.Proofs.YtpkenfnmkpmapaaGreat.Em
namespace Go.Proofs.YtpkenfnmkpmapaaGreat.Em
open En
set_option linter.unusedVariables false
set_option linter.unusedSimpArgs false
set_option maxRecDepth 100000
set_option maxHeartbeats 1600000
def SwS (σ τ:St):Prop:=τ.sw=σ.sw∧τ.cut=σ.cut
theorem SwS.trans {σ τ υ:St} (h:SwS σ τ) (k:SwS τ υ):SwS σ υ:=⟨k.1.trans h.1,k.2.trans h.2⟩
theorem sw_cas (σ:St) (i o v:Nat):SwS σ (σ.cas i o v):=by unfold St.cas;split<;>exact⟨rfl,rfl⟩
theorem sw_help (σ:St) (w:Nat):SwS σ (σ.help w):=sw_cas _ _ _ _
theorem sw_bind (σ:St) (s tq:Nat):SwS σ (σ.bind s tq):=by unfold St.bind;split<;>exact⟨rfl,rfl⟩
theorem sw_list (σ:St):SwS σ σ.list:=by unfold St.list;split<;>exact⟨rfl,rfl⟩
theorem sw_take (σ:St):SwS σ σ.take.1:=by unfold St.take;simp only;split<;>exact sw_list σ
theorem sw_give (σ:St) (l:Nat):SwS σ (σ.give l):=by
 unfold St.give
 split
 · simp only
   split<;>exact⟨rfl,rfl⟩
 · exact⟨rfl,rfl⟩
theorem sw_scan (s n:Nat):∀ (σ:St) (key:Nat),SwS σ (scanN s n σ key).1:=by
 induction n with
 |zero=>intro σ key;exact⟨rfl,rfl⟩
 |succ n ih=>
  intro σ key;unfold scanN
  split
  · exact⟨rfl,rfl⟩
  · split
    · rename_i x _
      refine SwS.trans ?_ (ih _ (key+1))
      split<;>exact⟨rfl,rfl⟩
    · exact⟨rfl,rfl⟩
theorem sw_slot (σ:St) (s:Nat) (x:Bool) (link head:Nat):SwS σ (σ.slot s x link head).1:=by
 unfold St.slot
 by_cases h:link=0
 · rw[if_pos h]
   have:=sw_take σ
   cases e:σ.take with
   |mk τ o=>
    rw[e] at this
    cases o<;>exact this
 · rw[if_neg h];exact⟨rfl,rfl⟩
theorem sw_thn (σ:St) (s:Nat) (h:Hunt) (link:Nat):SwS σ (σ.thn s h link).1:=by
 unfold St.thn
 split
 · simp only;split<;>exact⟨rfl,rfl⟩
 · simp only
   unfold St.scan;refine SwS.trans ?_ (sw_scan _ _ _ _)
   split<;>exact⟨rfl,rfl⟩
 · simp only
   split
   · exact⟨rfl,rfl⟩
   split
   · exact⟨rfl,rfl⟩
   split<;>exact⟨rfl,rfl⟩
 · split<;>exact⟨rfl,rfl⟩
theorem sw_visit (σ:St) (s:Nat) (h:Hunt) (link:Nat):SwS σ (σ.visit s h link).1:=by unfold St.visit;split;exact sw_thn _ _ _ _;exact⟨rfl,rfl⟩
theorem sw_seen (σ:St) (s:Nat) (h:Hunt) (link mb:Nat):SwS σ (σ.seen s h link mb).1:=by unfold St.seen;split;exact sw_thn _ _ _ _;exact⟨rfl,rfl⟩
theorem sw_freeK (σ:St) (s link head at_:Nat):SwS σ (σ.freeK s link head at_).1:=by unfold St.freeK;split;exact sw_slot _ _ _ _ _;exact⟨rfl,rfl⟩
theorem sw_lost (σ:St) (link:Nat):SwS σ (σ.lost link).1:=by unfold St.lost;split;exact sw_give _ _;exact⟨rfl,rfl⟩
theorem sw_tellEnd (σ:St) (s:Nat) (e:Ev):SwS σ (σ.tellEnd s e):=by unfold St.tellEnd;split<;>exact⟨rfl,rfl⟩
theorem run_sw (σ:St) (s:Nat) (k:K):SwS σ (σ.run s k).1:=by
 have r0:SwS σ σ:=⟨rfl,rfl⟩
 cases k
 case turns l r=>
  cases l with
  |nil=>exact r0
  |cons x l=>simp only[St.run];split;exact r0;exact sw_cas _ _ _ _
 case start h=>exact sw_visit σ.tick s h _
 case older h link=>exact sw_visit σ.tick s h _
 case ended h link mb=>
  simp only[St.run]
  split
  · exact r0
  split
  · exact sw_seen σ.tick s h link mb
  · exact r0
 case ender h link mb id=>
  simp only[St.run]
  split
  · exact sw_seen σ.tick s h link mb
  split
  · exact sw_bind σ.tick s id
  · exact r0
 case seen h link mb=>
  simp only[St.run]
  split
  · exact r0
  · split
    · exact (sw_bind σ.tick s mb).trans (sw_thn _ _ _ _)
    · exact sw_thn σ.tick _ _ _
 case claim link w=>
  simp only[St.run]
  split
  · exact sw_cas _ _ _ _
  split
  · exact sw_cas σ _ _ _
  · refine SwS.trans (sw_cas σ (wslot link 1) w (mine (σ.t s))) (SwS.trans ?_ (sw_slot _ _ _ _ _))
    exact⟨rfl,rfl⟩
 case fresh link=>exact sw_freeK σ.tick s _ _ _
 case next link head at_=>exact sw_freeK σ.tick s _ _ _
 case free link head at_=>
  simp only[St.run]
  split
  · exact r0
  split
  · exact sw_lost σ.tick _
  · exact r0
 case freeTxn link head at_ id=>
  simp only[St.run]
  split
  · exact r0
  · exact sw_lost σ.tick _
 case pushC link head=>
  simp only[St.run]
  split
  · exact sw_cas _ _ _ _
  · exact sw_cas _ _ _ _
 case overC link head=>
  simp only[St.run]
  split
  · exact sw_cas _ _ _ _
  · exact sw_cas _ _ _ _
 case turn w now=>
  simp only[St.run]
  split
  · exact sw_cas _ _ _ _
  · exact sw_cas σ _ _ _
 case drawH w now=>exact sw_help _ _
 case helpJ=>exact sw_help _ _
 case commit=>exact sw_tellEnd (σ.put _ _) s _
 case abort e r=>exact sw_tellEnd (σ.put _ _) s _
 case again e=>
  simp only[St.run]
  split<;>exact⟨rfl,rfl⟩
 all_goals (simp only[St.run];(repeat' split)<;>exact⟨rfl,rfl⟩)
theorem first_sw (σ:St) (s:Nat):SwS σ (σ.first s).1:=by
 have r0:SwS σ σ:=⟨rfl,rfl⟩
 unfold St.first;simp only
 split
 · split<;>exact r0
 · exact sw_scan _ _ _ _
 · exact r0
 · exact r0
 · split
   · split
     · exact r0
     split
     · exact r0
     split
     · exact sw_slot _ _ _ _ _
     · exact r0
   · exact r0
end Go.Proofs.YtpkenfnmkpmapaaGreat.Em
namespace Go.Proofs.YtpkenfnmkpmapaaGreat.Em
open Go.ChangeShapes Go.WideShapes Go.ChangeAt Go.RowKit En
set_option linter.unusedVariables false
set_option linter.unusedSimpArgs false
set_option maxRecDepth 100000
set_option maxHeartbeats 1600000
theorem sessionOk (s:Nat) (hs:s<8) (w:World):Calls Tryz.prog 36 #[zi (s:Int)] w fun e w'=>e=.returned (.bool true)∧w=w':=by
 have h1:(0:Int)≤(s:Int):=by omega
 have h2:(s:Int)<8:=by omega
 have h3:decide ((0:Int)≤(s:Int))=true:=by simp
 have h4:decide ((s:Int)<8)=true:=by simp;omega
 have h5:(s<8)=True:=by simpa using hs
 go_enter Tryz.func36,Tryz.ntmps36;go_wp2;go_ret;exact⟨rfl,rfl⟩
structure Live (A:Book) (σ:St) (w:World):Prop where
 rep:Rep A σ w
 mp:A.mp=0
 mt:∀ s,A.mt s=0
 call:∀ s,s<8→∀ c,σ.calls.getD s none=some c→A.vcall s=ptr (A.bc s)∧∃ k,c.k=some k∧KRep (kp A σ s) A.L w (A.vnext s) k
 idle:∀ s,s<8→σ.calls.getD s none=none→A.vcall s=.pointer none
 sx:SwRep A σ w
structure StayQ (A A':Book) (s:Nat):Prop where
 bf:A'.bef=A.bef
 mp:A'.mp=A.mp
 mt:A'.mt=A.mt
 bt:∀ q,q≠s→A'.bt q=A.bt q
 bc:∀ q,q≠s→A'.bc q=A.bc q
 bx:∀ q,q≠s→A'.bx q=A.bx q
 vpairs:∀ q,q≠s→A'.vpairs q=A.vpairs q
 vnext:∀ q,q≠s→A'.vnext q=A.vnext q
 vcall:∀ q,q≠s→A'.vcall q=A.vcall q
theorem StayQ.be {A A':Book} {s:Nat} (h:StayQ A A' s):A'.be=A.be:=bef_be h.bf
theorem Live.of {A A':Book} {σ σ':St} {w w':World} {s:Nat} (hL:Live A σ w) (hsw:σ'.sw=σ.sw∧σ'.cut=σ.cut) (r:Rep A' σ' w') (g:Grow A.L w A'.L w') (st:StayQ A A' s) (hq:∀ q,q≠s→σ'.calls.getD q none=σ.calls.getD q none)
 (h1:∀ c,σ'.calls.getD s none=some c→A'.vcall s=ptr (A'.bc s)∧∃ k,c.k=some k∧KRep (kp A' σ' s) A'.L w' (A'.vnext s) k) (h2:σ'.calls.getD s none=none→A'.vcall s=.pointer none):Live A' σ' w':=by
 refine⟨r,st.mp.trans hL.mp,fun q=>by rw[st.mt];exact hL.mt q,fun q hq8 c hc=>?_,fun q hq8 hc=>?_,hL.sx.keep st.bf hsw g⟩
 · by_cases h:q=s
   · subst h;exact h1 c hc
   · have hc0:=(hq q h).symm.trans hc
     obtain⟨e1,k,e2,e3⟩:=hL.call q hq8 c hc0;have ek:kp A' σ' q=kp A σ q:=by
      unfold kp;rw[st.be,st.bt q h,st.bc q h,st.bx q h,st.vpairs q h,call_get hc,call_get hc0]
     refine⟨by rw[st.vcall q h,st.bc q h];exact e1,k,e2,?_⟩;rw[ek,st.vnext q h];exact e3.grow g
 · by_cases h:q=s
   · subst h;exact h2 hc
   · rw[st.vcall q h]
     exact hL.idle q hq8 ((hq q h).symm.trans hc)
theorem KRep.enter {p:KP} {L:Lab} {w:World} {v:Value} {k:K} (h:KRep p L w v k):∃ f b c,v=.func (.func f) b c∧∀ args w,(callFunc f args).run Tryz.prog w=.ok (.enter f args) w:=by
 cases k<;>first
  |(obtain⟨b0,e,_⟩:=h;exact⟨_,_,_,e,fun args w=>by kernel_rfl⟩)
  |(obtain⟨b0,b1,e,_⟩:=h;exact⟨_,_,_,e,fun args w=>by kernel_rfl⟩)
  |(obtain⟨b0,b1,b2,e,_⟩:=h;exact⟨_,_,_,e,fun args w=>by kernel_rfl⟩)
  |(obtain⟨b0,b1,b2,b3,e,_⟩:=h;exact⟨_,_,_,e,fun args w=>by kernel_rfl⟩)
  |(obtain⟨b0,b1,b2,b3,b4,e,_⟩:=h;exact⟨_,_,_,e,fun args w=>by kernel_rfl⟩)
  |(obtain⟨b0,b1,b2,b3,b4,b5,e,_⟩:=h;exact⟨_,_,_,e,fun args w=>by kernel_rfl⟩)
  | (rename_i l r; cases l
     · obtain⟨b0,b1,b2,b3,e,_⟩:=h;exact⟨_,_,_,e,fun args w=>by kernel_rfl⟩
     · obtain⟨b0,b1,b2,b3,b4,e,_⟩:=h;exact⟨_,_,_,e,fun args w=>by kernel_rfl⟩)
def Stepped (A:Book) (w:World) (σ':St) (kind:Int) (r:Res):Ending→World→Prop:=fun e w'=>∃ A' vp,e=.returned (.tuple #[.agg #[zi kind,zi (r.e:Int),zi (r.value:Int),vp,zi (r.over:Int),zi (r.reason:Int)],zi 0])∧FRow A'.L w' 2 vp (pairCs r.pairs)∧Live A' σ' w'∧Grow A.L w A'.L w'∧A'.be=A.be
def RunsTo (σ1:St) (s:Nat) (k:K):Prop:=∀ A w1 f b c,Rep A σ1 w1→A.mp=0→A.mt s=0→KRep (kp A σ1 s) A.L w1 (.func (.func f) b c) k→Calls Tryz.prog f (b++c) w1 (Ran A w1 s (σ1.run s k))
theorem step_go {A:Book} {σ:St} {w:World} (hL:Live A σ w) (s:Nat) (hs:s<8) (t:Txn) (ht:σ.txns.getD s none=some t) (c:Cal) (hc:σ.calls.getD s none=some c) (k:K) (hk:c.k=some k) (hcnt:σ.count<3000000000000000000) (σ2:St) (ok:Option K) (hrun:(σ.setC s {c with waits:=false}).run s k=(σ2,ok)) (HS:RunsTo (σ.setC s {c with waits:=false}) s k) (c2:Cal) (hc2:σ2.calls.getD s none=some c2) (dl:Nat) (hdl:σ2.count=σ.count+dl) (hd1:dl<1000000) (hlk:σ2.looks<1000000000000000000) (hcq:∀ q,q≠s→σ2.calls.getD q none=σ.calls.getD q none) (k':K) (hok:ok=some k') (hov:c2.over=false):
 Calls Tryz.prog 38 #[.pointer (some ⟨A.be,0,none⟩),zi (s:Int)] w (Stepped A w ({σ2.setC s {c2 with k:=ok} with looks:=σ2.looks+dl}) (if c2.waits then 2 else 1) {}):=by
 have HSW:Hid (σ2.sw=σ.sw∧σ2.cut=σ.cut):=zH (by have h:=run_sw (σ.setC s {c with waits:=false}) s k;rw[hrun] at h;exact h);obtain⟨Q,hQ⟩:∃ Q,Q=Stepped A w ({σ2.setC s {c2 with k:=ok} with looks:=σ2.looks+dl}) (if c2.waits then 2 else 1) {}:=⟨_,rfl⟩
 rw[←hQ];have HQ:=zH hQ;clear hQ;obtain⟨r0,g0,fl,fh⟩:=hL.rep.newTmp (.cells #[zi 0,zi 0,zi 0,.slice none 0 0,zi 0,zi 0] 127);obtain⟨hvc,k0,hk0,hkr⟩:=hL.call s hs c hc;obtain rfl:k=k0:=by rw[hk] at hk0;exact Option.some.inj hk0
 obtain⟨fv,fb,fc,hvn,hent⟩:=hkr.enter;have hsok:=zH (sessionOk s hs);have b1:(s:Int)<8:=by omega
 have b0:(0:Int)≤(s:Int):=by omega
 have v0:(w.alloc (.cells #[zi 0,zi 0,zi 0,.slice none 0 0,zi 0,zi 0] 127)).cell? ⟨A.be,13+s,none⟩=some (.pointer (some ⟨A.bc s,0,none⟩)):=by rw[←show A.vcall s=.pointer (some ⟨A.bc s,0,none⟩) from hvc];exact r0.eng (13+s) (engCs_call (A.tmp w.heap.size) σ hs)
 have v1:(w.alloc (.cells #[zi 0,zi 0,zi 0,.slice none 0 0,zi 0,zi 0] 127)).cell? ⟨A.be,5+s,none⟩=some (.pointer (some ⟨A.bt s,0,none⟩)):=by
  have h:=r0.eng (5+s) (engCs_txn (A.tmp w.heap.size) σ hs);have e:(A.tmp w.heap.size).tp σ s=.pointer (some ⟨A.bt s,0,none⟩):=by unfold Book.tp;rw[ht];rfl
  rw[e] at h;exact h
 obtain⟨σ1,hσ1⟩:∃ σ1,σ1=σ.setC s {c with waits:=false}:=⟨_,rfl⟩
 rw[←hσ1] at hrun HS;have hc1:σ1.calls.getD s none=some {c with waits:=false}:=by rw[hσ1,getC_set (lt_of_call hc),if_pos rfl]
 have hkp:kp A σ1 s=kp A σ s:=by unfold kp;rw[call_get hc1,call_get hc]
 have H5:Hid (∀ n w5,(w.alloc (.cells #[zi 0,zi 0,zi 0,.slice none 0 0,zi 0,zi 0] 127)).drewN n=w5→w5.cell? ⟨A.bc s,10,none⟩=some (.bool c.waits)∧w5.frozen? ⟨A.bc s,10,none⟩=false∧∀ w6,w5.setCell ⟨A.bc s,10,none⟩ (.bool false)=w6→w6.cell? ⟨A.be,2,none⟩=some (.pointer (some ⟨A.ba,0,none⟩))∧w6.cell? ⟨A.bc s,4,none⟩=some (.func (.func fv) fb fc)∧Calls Tryz.prog 69 #[.pointer (some ⟨A.ba,0,none⟩)] w6 (fun e w'=>e=.returned (zi (σ.count:Int))∧w6=w')∧Calls Tryz.prog fv (fb++fc) w6 (Ran (A.tmp w.heap.size) w6 s (σ2,ok))∧Grow A.L w (A.tmp w.heap.size).L w6∧((A.tmp w.heap.size).L w.heap.size=some .tmp∧w6.heap[w.heap.size]? =some (.cells #[zi 0,zi 0,zi 0,.slice none 0 0,zi 0,zi 0] 127))):=by
  rintro n w5 rfl;have r5:=r0.drewN n;refine⟨r5.call hc 10 rfl,r5.callF hc 10,?_⟩;rintro w6 rfl;obtain⟨r6,g6⟩:=r5.setCall hc {c with waits:=false} 10 (.bool false) rfl rfl;have g56:=(Grow.drewN (A.tmp w.heap.size).L (w.alloc (.cells #[zi 0,zi 0,zi 0,.slice none 0 0,zi 0,zi 0] 127)) n).trans g6;have gg:=g0.trans g56;rw[←hσ1] at r6;have h4:_=some (A.vnext s):=r6.call hc1 4 rfl;rw[hvn] at h4;have h4':(((w.alloc (.cells #[zi 0,zi 0,zi 0,.slice none 0 0,zi 0,zi 0] 127)).drewN n).setCell ⟨A.bc s,10,none⟩ (.bool false)).cell? ⟨A.bc s,4,none⟩=some (.func (.func fv) fb fc):=h4;have hk6:=(hkr.grow gg)
  rw[hvn,←hkp] at hk6;have hS:=HS (A.tmp w.heap.size) _ fv fb fc r6 hL.mp (hL.mt s) hk6;rw[hrun] at hS;have hcn:=count_any r6 (by rw[hσ1];exact Nat.lt_trans hcnt (by decide));have hcc:σ1.count=σ.count:=by rw[hσ1];rfl
  rw[hcc] at hcn;exact⟨r6.eng 2 rfl,h4',hcn,hS,gg,tmp_grow ⟨fl,fh⟩ g56⟩
 have HL0:=zH hL;have HF:=zH (zA hc2 (zA hdl (zA hcq (zA hs hlk))));have n1:IntKind.i64.wrap (((σ.count+dl:Nat):Int) - (σ.count:Int))=(dl:Int):=by rw[IntKind.wrap_i64];omega
 have n2:IntKind.i64.wrap ((σ2.looks:Int)+(dl:Int))=((σ2.looks+dl:Nat):Int):=by rw[IntKind.wrap_i64];omega
 have H7 : Hid (∀ A2 w2 v A3, A3 = { A2 with vnext := upF A2.vnext s v } → Rep A2 σ2 w2 → Stay (A.tmp w.heap.size) A2 s → w2.cell? ⟨A.bc s, 4, none⟩ = some (A2.vnext s) ∧ w2.frozen? ⟨A.bc s, 4, none⟩ = false ∧ ∀ w3, w2.setCell ⟨A.bc s, 4, none⟩ v = w3 → w3.cell? ⟨A.be, 23, none⟩ = some (zi (σ2.looks : Int)) ∧ w3.frozen? ⟨A.be, 23, none⟩ = false ∧ w3.cell? ⟨A.be, 2, none⟩ = some (.pointer (some ⟨A.ba, 0, none⟩)) ∧ Calls Tryz.prog 69 #[.pointer (some ⟨A.ba, 0, none⟩)] w3.drew (fun e w' => e = .returned (zi ((σ.count + dl : Nat) : Int)) ∧ w' = w3.drew) ∧
     ∀ w4,w3.drew.setCell ⟨A.be,23,none⟩ (zi ((σ2.looks+dl:Nat):Int))=w4→Rep A3 ({σ2.setC s {c2 with k:=ok} with looks:=σ2.looks+dl}) w4∧Grow A2.L w2 A2.L w4∧w4.cell? ⟨A.bc s,10,none⟩=some (.bool c2.waits)∧w4.cell? ⟨A.bc s,11,none⟩=some (.bool c2.over)):=by
  intro A2 w2 v A3 hA3 q st;have ebc:A2.bc=A.bc:=st.bc;have ebe:A2.be=A.be:=st.be;have eba:A2.ba=A.ba:=st.ba;have x4:=q.call hc2 4 (v:=A2.vnext s) rfl;have z4:=q.callF hc2 4;rw[ebc] at x4 z4;refine⟨x4,z4,?_⟩;rintro w3 rfl;obtain⟨r3,g3⟩:=q.nextSet hc2 v ok;rw[←hA3,ebc] at r3;rw[ebc] at g3;have e3:A3.be=A.be:=by rw[hA3];exact ebe
  have e3a:A3.ba=A.ba:=by rw[hA3];exact eba
  have e3c:A3.bc=A.bc:=by rw[hA3];exact ebc
  have e3L:A3.L=A2.L:=by rw[hA3]
  have y23:=r3.eng 23 (v:=zi (σ2.looks:Int)) rfl;have z23:=r3.engF 23;have y2:=r3.eng 2 (v:=.pointer (some ⟨A3.ba,0,none⟩)) rfl;have hcn:=flip (count_any r3.drew (by show σ2.count<_;omega));rw[e3] at y23 z23 y2;rw[e3a] at hcn y2;rw[show (σ2.setC s {c2 with k:=ok}).count=σ.count+dl from hdl] at hcn;refine⟨y23,z23,y2,hcn,?_⟩;intro w4 hw4;obtain⟨r4,g4⟩:=r3.drew.looksSet (σ2.looks+dl);rw[e3,hw4] at r4 g4;rw[e3L] at g4;have hc4:({σ2.setC s {c2 with k:=ok} with looks:=σ2.looks+dl}:St).calls.getD s none=some {c2 with k:=ok}:=by show (σ2.setC s {c2 with k:=ok}).calls.getD s none=_;rw[getC_set (lt_of_call hc2),if_pos rfl]
  have a10:=r4.call hc4 10 (v:=.bool c2.waits) rfl;have a11:=r4.call hc4 11 (v:=.bool c2.over) rfl;rw[e3c] at a10 a11;exact⟨r4,(g3.trans (Grow.drew _ _)).trans g4,a10,a11⟩
 have hwx:(w.alloc (.cells #[zi 0,zi 0,zi 0,.slice none 0 0,zi 0,zi 0] 127)).cell? ⟨A.bc s,10,none⟩=some (.bool c.waits):=r0.call hc 10 rfl;have HVC:=zH hvc;clear hL ht hc hk hcnt hrun HS hc2 hdl hd1 hlk hcq r0 g0 fl fh hvc hk0 hkr hvn hσ1 hc1 hkp hs;generalize (σ.count:Int)=ca at*;generalize ((σ.count+dl:Nat):Int)=cb at*;generalize ((σ2.looks+dl:Nat):Int)=lb at*;go_enter Tryz.func38,Tryz.ntmps38;go_wp2_with (go_at_call 36;refine (hsok.out _).mono ?_;rintro e w' ⟨rfl,rfl⟩);generalize hw0:w.alloc _=w0 at*
 go_quiet (fail)
 generalize hw5:w0.drewN _=w5;obtain⟨x10,z10,h6⟩:=H5.out _ w5 hw5;obtain⟨y2,y4,hcn,hS,gg,fD⟩:=h6 _ rfl;have HC:=zH hcn;have HX:=zH (zA hS (zA gg fD));clear hcn hS gg fD h6 hw5 hw0 H5 v0 v1 hwx;go_wp2_with (go_at_call 69;refine HC.out.mono ?_;rintro e w' ⟨rfl,rfl⟩);refine HX.out.1.mono ?_;rintro e w2 ⟨A2,v,rfl,q1,q2,q3,q4⟩;subst hok;obtain⟨f2,u2,u3,rfl,hent2⟩:=KRep.enter q4;obtain⟨x4,z4,h3⟩:=H7.out A2 w2 (.func (.func f2) u2 u3) _ rfl q1 q3;obtain⟨y23,z23,y2',hcn,h4⟩:=h3 _ rfl;have HC2:=zH hcn;have HX2:=zH (zA q1 (zA q2 (zA q3 (zA q4 h4))));clear hcn h3 h4 q1 q2 q3 q4 H7 x10 z10 y2 y4;go_wp2_with fail;generalize hw3:w2.setCell ⟨A.bc s,4,none⟩ (.func (.func f2) u2 u3)=w3 at*;refine wp_region_still_tail 14 (by kernel_rfl) (by kernel_rfl) ?_;simp only[zta,ztb,ztc,ztd]
 repeat still_step
 still_call HC2.out
 repeat still_step
 refine wpStill_nil ?_;change wpList _ _ _ _ _ w3.drew;have y23d:w3.drew.cell? ⟨A.be,23,none⟩=some (zi (σ2.looks:Int)):=y23;have z23d:w3.drew.frozen? ⟨A.be,23,none⟩=false:=z23;generalize w3.drew=wd at*;obtain⟨r4,g4,a10,a11⟩:=HX2.out.2.2.2.2 _ rfl;have fD:=tmp_grow (tmp_grow HX.out.2.2 HX2.out.2.1) g4;have HTH:=zH (there_of fD.2);have HY:=zH (zA r4 (zA g4 fD));have HOV:=zH hov;rw[hov] at a11;clear r4 g4 fD hov
 cases hwt:c2.waits
 · rw[hwt] at a10
   have HWT:=zH hwt;clear hwt;go_wp2_with (refine wpList_store_mid rfl 127 (.tmp 4) (.tmp 77) rfl w.heap.size 0 #[zi 1,zi 0,zi 0,.slice none 0 0,zi 0,zi 0] rfl rfl HTH.out (by kernel_rfl) (by simp[Value.oneCell']) ?_;generalize hws:World.setCells _ _ _ _=ws);have hbut:=But.setCells w.heap.size [zi 1,zi 0,zi 0,.slice none 0 0,zi 0,zi 0] 0 (wd.setCell ⟨A.be,23,none⟩ (zi lb));have hfin:=heap_setCells6 HY.out.2.2.2 (zi 1) (zi 0) (zi 0) (.slice none 0 0) (zi 0) (zi 0);rw[show (wd.setCell ⟨A.be,23,none⟩ (zi lb)).setCells w.heap.size 0 [zi 1,zi 0,zi 0,.slice none 0 0,zi 0,zi 0]=ws from hws] at hbut hfin
   (try simp only[Exit.inBlock,Exit.then])
   refine bodyPost_ret (results_cell_tmp_row rfl _ _ w.heap.size 127 #[zi 1,zi 0,zi 0,.slice none 0 0,zi 0,zi 0] _ _ rfl hfin Tryz.underlying127 rfl (by kernel_rfl)) rfl ?_;have hkd:(if c2.waits then (2:Int) else 1)=1:=by rw[HWT.out];rfl
   rw[HQ.out,hkd];obtain⟨hc2,hdl,hcq,hs,_⟩:=HF.out;obtain⟨q1,q2,q3,q4,_⟩:=HX2.out;obtain⟨r4,g4,fD⟩:=HY.out;have r5:=r4.but fD.1 hbut;have gg:=(((HX.out.2.1.trans q2).trans g4).but (Nat.le_refl _) hbut)
   have hc':({σ2.setC s {c2 with k:=some k'} with looks:=σ2.looks+dl}:St).calls.getD s none=some {c2 with k:=some k'}:=by show (σ2.setC s {c2 with k:=some k'}).calls.getD s none=_;rw[getC_set (lt_of_call hc2),if_pos rfl]
   refine⟨{A2 with vnext:=upF A2.vnext s (.func (.func f2) u2 u3)},.slice none 0 0,rfl,FRow.nil _ _ _,Live.of (s:=s) HL0.out HSW.out r5 gg ⟨q3.bf,q3.mp,q3.mt,fun q _=>by rw[show ({A2 with vnext:=_}:Book).bt=A.bt from q3.bt],fun q _=>by rw[show ({A2 with vnext:=_}:Book).bc=A.bc from q3.bc],q3.bx,q3.vpairs,fun q hq=>(upF_other _ _ hq).trans (congrFun q3.vnext q),fun q _=>congrFun q3.vcall q⟩ (fun q hq=>?_) (fun c' hcc=>?_) (fun hnn=>by have h0:=hc'.symm.trans hnn;cases h0),gg,q3.be⟩
   · show (σ2.setC s _).calls.getD q none=_
     rw[getC_set (lt_of_call hc2),if_neg hq];exact hcq q hq
   · obtain rfl:{c2 with k:=some k'}=c':=Option.some.inj (hc'.symm.trans hcc)
     refine⟨?_,k',rfl,?_⟩
     · show A2.vcall s=ptr (A2.bc s)
       rw[q3.vcall,q3.bc];exact HVC.out
     · have ek:kp {A2 with vnext:=upF A2.vnext s (.func (.func f2) u2 u3)} ({σ2.setC s {c2 with k:=some k'} with looks:=σ2.looks+dl}:St) s=kp A2 σ2 s:=by unfold kp;rw[call_get hc',call_get hc2]
       rw[ek,show ({A2 with vnext:=upF A2.vnext s (.func (.func f2) u2 u3)}:Book).vnext s=.func (.func f2) u2 u3 from upF_same _ _ _];exact (q4.grow g4).soft (hbut.soft fD.1)
 · rw[hwt] at a10
   have HWT:=zH hwt;clear hwt;go_wp2_with (refine wpList_store_mid rfl 127 (.tmp 4) (.tmp 70) rfl w.heap.size 0 #[zi 2,zi 0,zi 0,.slice none 0 0,zi 0,zi 0] rfl rfl HTH.out (by kernel_rfl) (by simp[Value.oneCell']) ?_;generalize hws:World.setCells _ _ _ _=ws);have hbut:=But.setCells w.heap.size [zi 2,zi 0,zi 0,.slice none 0 0,zi 0,zi 0] 0 (wd.setCell ⟨A.be,23,none⟩ (zi lb));have hfin:=heap_setCells6 HY.out.2.2.2 (zi 2) (zi 0) (zi 0) (.slice none 0 0) (zi 0) (zi 0);rw[show (wd.setCell ⟨A.be,23,none⟩ (zi lb)).setCells w.heap.size 0 [zi 2,zi 0,zi 0,.slice none 0 0,zi 0,zi 0]=ws from hws] at hbut hfin
   (try simp only[Exit.inBlock,Exit.then])
   refine bodyPost_ret (results_cell_tmp_row rfl _ _ w.heap.size 127 #[zi 2,zi 0,zi 0,.slice none 0 0,zi 0,zi 0] _ _ rfl hfin Tryz.underlying127 rfl (by kernel_rfl)) rfl ?_;have hkd:(if c2.waits then (2:Int) else 1)=2:=by rw[HWT.out];rfl
   rw[HQ.out,hkd];obtain⟨hc2,hdl,hcq,hs,_⟩:=HF.out;obtain⟨q1,q2,q3,q4,_⟩:=HX2.out;obtain⟨r4,g4,fD⟩:=HY.out;have r5:=r4.but fD.1 hbut;have gg:=(((HX.out.2.1.trans q2).trans g4).but (Nat.le_refl _) hbut)
   have hc':({σ2.setC s {c2 with k:=some k'} with looks:=σ2.looks+dl}:St).calls.getD s none=some {c2 with k:=some k'}:=by show (σ2.setC s {c2 with k:=some k'}).calls.getD s none=_;rw[getC_set (lt_of_call hc2),if_pos rfl]
   refine⟨{A2 with vnext:=upF A2.vnext s (.func (.func f2) u2 u3)},.slice none 0 0,rfl,FRow.nil _ _ _,Live.of (s:=s) HL0.out HSW.out r5 gg ⟨q3.bf,q3.mp,q3.mt,fun q _=>by rw[show ({A2 with vnext:=_}:Book).bt=A.bt from q3.bt],fun q _=>by rw[show ({A2 with vnext:=_}:Book).bc=A.bc from q3.bc],q3.bx,q3.vpairs,fun q hq=>(upF_other _ _ hq).trans (congrFun q3.vnext q),fun q _=>congrFun q3.vcall q⟩ (fun q hq=>?_) (fun c' hcc=>?_) (fun hnn=>by have h0:=hc'.symm.trans hnn;cases h0),gg,q3.be⟩
   · show (σ2.setC s _).calls.getD q none=_
     rw[getC_set (lt_of_call hc2),if_neg hq];exact hcq q hq
   · obtain rfl:{c2 with k:=some k'}=c':=Option.some.inj (hc'.symm.trans hcc)
     refine⟨?_,k',rfl,?_⟩
     · show A2.vcall s=ptr (A2.bc s)
       rw[q3.vcall,q3.bc];exact HVC.out
     · have ek:kp {A2 with vnext:=upF A2.vnext s (.func (.func f2) u2 u3)} ({σ2.setC s {c2 with k:=some k'} with looks:=σ2.looks+dl}:St) s=kp A2 σ2 s:=by unfold kp;rw[call_get hc',call_get hc2]
       rw[ek,show ({A2 with vnext:=upF A2.vnext s (.func (.func f2) u2 u3)}:Book).vnext s=.func (.func f2) u2 u3 from upF_same _ _ _];exact (q4.grow g4).soft (hbut.soft fD.1)
theorem step_over {A:Book} {σ:St} {w:World} (hL:Live A σ w) (s:Nat) (hs:s<8) (t:Txn) (ht:σ.txns.getD s none=some t) (c:Cal) (hc:σ.calls.getD s none=some c) (k:K) (hk:c.k=some k) (hcnt:σ.count<3000000000000000000) (σ2:St) (ok:Option K) (hrun:(σ.setC s {c with waits:=false}).run s k=(σ2,ok)) (HS:RunsTo (σ.setC s {c with waits:=false}) s k) (c2:Cal) (hc2:σ2.calls.getD s none=some c2) (dl:Nat) (hdl:σ2.count=σ.count+dl) (hd1:dl<1000000) (hlk:σ2.looks<1000000000000000000) (hcq:∀ q,q≠s→σ2.calls.getD q none=σ.calls.getD q none) (hok:ok=none) (hw:c2.waits=false) (hov:c2.over=true) (hpr:c2.r.pairs=[]) (hro:c2.r.over≠0):
 Calls Tryz.prog 38 #[.pointer (some ⟨A.be,0,none⟩),zi (s:Int)] w (Stepped A w ({σ2.setC s {c2 with k:=ok} with looks:=σ2.looks+dl,calls:=(σ2.setC s {c2 with k:=ok}).calls.set s none,txns:=σ2.txns.set s none}) 3 c2.r):=by
 have HSW:Hid (σ2.sw=σ.sw∧σ2.cut=σ.cut):=zH (by have h:=run_sw (σ.setC s {c with waits:=false}) s k;rw[hrun] at h;exact h);obtain⟨Q,hQ⟩:∃ Q,Q=Stepped A w ({σ2.setC s {c2 with k:=ok} with looks:=σ2.looks+dl,calls:=(σ2.setC s {c2 with k:=ok}).calls.set s none,txns:=σ2.txns.set s none}) 3 c2.r:=⟨_,rfl⟩
 rw[←hQ];have HQ:=zH hQ;clear hQ;obtain⟨r0,g0,fl,fh⟩:=hL.rep.newTmp (.cells #[zi 0,zi 0,zi 0,.slice none 0 0,zi 0,zi 0] 127);obtain⟨hvc,k0,hk0,hkr⟩:=hL.call s hs c hc;obtain rfl:k=k0:=by rw[hk] at hk0;exact Option.some.inj hk0
 obtain⟨fv,fb,fc,hvn,hent⟩:=hkr.enter;have hsok:=zH (sessionOk s hs);have b1:(s:Int)<8:=by omega
 have b0:(0:Int)≤(s:Int):=by omega
 have v0:(w.alloc (.cells #[zi 0,zi 0,zi 0,.slice none 0 0,zi 0,zi 0] 127)).cell? ⟨A.be,13+s,none⟩=some (.pointer (some ⟨A.bc s,0,none⟩)):=by rw[←show A.vcall s=.pointer (some ⟨A.bc s,0,none⟩) from hvc];exact r0.eng (13+s) (engCs_call (A.tmp w.heap.size) σ hs)
 have v1:(w.alloc (.cells #[zi 0,zi 0,zi 0,.slice none 0 0,zi 0,zi 0] 127)).cell? ⟨A.be,5+s,none⟩=some (.pointer (some ⟨A.bt s,0,none⟩)):=by
  have h:=r0.eng (5+s) (engCs_txn (A.tmp w.heap.size) σ hs);have e:(A.tmp w.heap.size).tp σ s=.pointer (some ⟨A.bt s,0,none⟩):=by unfold Book.tp;rw[ht];rfl
  rw[e] at h;exact h
 obtain⟨σ1,hσ1⟩:∃ σ1,σ1=σ.setC s {c with waits:=false}:=⟨_,rfl⟩
 rw[←hσ1] at hrun HS;have hc1:σ1.calls.getD s none=some {c with waits:=false}:=by rw[hσ1,getC_set (lt_of_call hc),if_pos rfl]
 have hkp:kp A σ1 s=kp A σ s:=by unfold kp;rw[call_get hc1,call_get hc]
 have H5:Hid (∀ n w5,(w.alloc (.cells #[zi 0,zi 0,zi 0,.slice none 0 0,zi 0,zi 0] 127)).drewN n=w5→w5.cell? ⟨A.bc s,10,none⟩=some (.bool c.waits)∧w5.frozen? ⟨A.bc s,10,none⟩=false∧∀ w6,w5.setCell ⟨A.bc s,10,none⟩ (.bool false)=w6→w6.cell? ⟨A.be,2,none⟩=some (.pointer (some ⟨A.ba,0,none⟩))∧w6.cell? ⟨A.bc s,4,none⟩=some (.func (.func fv) fb fc)∧Calls Tryz.prog 69 #[.pointer (some ⟨A.ba,0,none⟩)] w6 (fun e w'=>e=.returned (zi (σ.count:Int))∧w6=w')∧Calls Tryz.prog fv (fb++fc) w6 (Ran (A.tmp w.heap.size) w6 s (σ2,ok))∧Grow A.L w (A.tmp w.heap.size).L w6∧((A.tmp w.heap.size).L w.heap.size=some .tmp∧w6.heap[w.heap.size]? =some (.cells #[zi 0,zi 0,zi 0,.slice none 0 0,zi 0,zi 0] 127))):=by
  rintro n w5 rfl;have r5:=r0.drewN n;refine⟨r5.call hc 10 rfl,r5.callF hc 10,?_⟩;rintro w6 rfl;obtain⟨r6,g6⟩:=r5.setCall hc {c with waits:=false} 10 (.bool false) rfl rfl;have g56:=(Grow.drewN (A.tmp w.heap.size).L (w.alloc (.cells #[zi 0,zi 0,zi 0,.slice none 0 0,zi 0,zi 0] 127)) n).trans g6;have gg:=g0.trans g56;rw[←hσ1] at r6;have h4:_=some (A.vnext s):=r6.call hc1 4 rfl;rw[hvn] at h4;have h4':(((w.alloc (.cells #[zi 0,zi 0,zi 0,.slice none 0 0,zi 0,zi 0] 127)).drewN n).setCell ⟨A.bc s,10,none⟩ (.bool false)).cell? ⟨A.bc s,4,none⟩=some (.func (.func fv) fb fc):=h4;have hk6:=(hkr.grow gg)
  rw[hvn,←hkp] at hk6;have hS:=HS (A.tmp w.heap.size) _ fv fb fc r6 hL.mp (hL.mt s) hk6;rw[hrun] at hS;have hcn:=count_any r6 (by rw[hσ1];exact Nat.lt_trans hcnt (by decide));have hcc:σ1.count=σ.count:=by rw[hσ1];rfl
  rw[hcc] at hcn;exact⟨r6.eng 2 rfl,h4',hcn,hS,gg,tmp_grow ⟨fl,fh⟩ g56⟩
 have HL0:=zH hL;have HF:=zH (zA hc2 (zA hdl (zA hcq (zA hs hlk))));have n1:IntKind.i64.wrap (((σ.count+dl:Nat):Int) - (σ.count:Int))=(dl:Int):=by rw[IntKind.wrap_i64];omega
 have n2:IntKind.i64.wrap ((σ2.looks:Int)+(dl:Int))=((σ2.looks+dl:Nat):Int):=by rw[IntKind.wrap_i64];omega
 have H7 : Hid (∀ A2 w2 v A3, A3 = { A2 with vnext := upF A2.vnext s v } → Rep A2 σ2 w2 → Stay (A.tmp w.heap.size) A2 s → w2.cell? ⟨A.bc s, 4, none⟩ = some (A2.vnext s) ∧ w2.frozen? ⟨A.bc s, 4, none⟩ = false ∧ ∀ w3, w2.setCell ⟨A.bc s, 4, none⟩ v = w3 → w3.cell? ⟨A.be, 23, none⟩ = some (zi (σ2.looks : Int)) ∧ w3.frozen? ⟨A.be, 23, none⟩ = false ∧ w3.cell? ⟨A.be, 2, none⟩ = some (.pointer (some ⟨A.ba, 0, none⟩)) ∧ Calls Tryz.prog 69 #[.pointer (some ⟨A.ba, 0, none⟩)] w3.drew (fun e w' => e = .returned (zi ((σ.count + dl : Nat) : Int)) ∧ w' = w3.drew) ∧
     ∀ w4,w3.drew.setCell ⟨A.be,23,none⟩ (zi ((σ2.looks+dl:Nat):Int))=w4→Rep A3 ({σ2.setC s {c2 with k:=ok} with looks:=σ2.looks+dl}) w4∧Grow A2.L w2 A2.L w4∧w4.cell? ⟨A.bc s,10,none⟩=some (.bool c2.waits)∧w4.cell? ⟨A.bc s,11,none⟩=some (.bool c2.over)):=by
  intro A2 w2 v A3 hA3 q st;have ebc:A2.bc=A.bc:=st.bc;have ebe:A2.be=A.be:=st.be;have eba:A2.ba=A.ba:=st.ba;have x4:=q.call hc2 4 (v:=A2.vnext s) rfl;have z4:=q.callF hc2 4;rw[ebc] at x4 z4;refine⟨x4,z4,?_⟩;rintro w3 rfl;obtain⟨r3,g3⟩:=q.nextSet hc2 v ok;rw[←hA3,ebc] at r3;rw[ebc] at g3;have e3:A3.be=A.be:=by rw[hA3];exact ebe
  have e3a:A3.ba=A.ba:=by rw[hA3];exact eba
  have e3c:A3.bc=A.bc:=by rw[hA3];exact ebc
  have e3L:A3.L=A2.L:=by rw[hA3]
  have y23:=r3.eng 23 (v:=zi (σ2.looks:Int)) rfl;have z23:=r3.engF 23;have y2:=r3.eng 2 (v:=.pointer (some ⟨A3.ba,0,none⟩)) rfl;have hcn:=flip (count_any r3.drew (by show σ2.count<_;omega));rw[e3] at y23 z23 y2;rw[e3a] at hcn y2;rw[show (σ2.setC s {c2 with k:=ok}).count=σ.count+dl from hdl] at hcn;refine⟨y23,z23,y2,hcn,?_⟩;intro w4 hw4;obtain⟨r4,g4⟩:=r3.drew.looksSet (σ2.looks+dl);rw[e3,hw4] at r4 g4;rw[e3L] at g4;have hc4:({σ2.setC s {c2 with k:=ok} with looks:=σ2.looks+dl}:St).calls.getD s none=some {c2 with k:=ok}:=by show (σ2.setC s {c2 with k:=ok}).calls.getD s none=_;rw[getC_set (lt_of_call hc2),if_pos rfl]
  have a10:=r4.call hc4 10 (v:=.bool c2.waits) rfl;have a11:=r4.call hc4 11 (v:=.bool c2.over) rfl;rw[e3c] at a10 a11;exact⟨r4,(g3.trans (Grow.drew _ _)).trans g4,a10,a11⟩
 have hwx:(w.alloc (.cells #[zi 0,zi 0,zi 0,.slice none 0 0,zi 0,zi 0] 127)).cell? ⟨A.bc s,10,none⟩=some (.bool c.waits):=r0.call hc 10 rfl;have HVC:=zH hvc;clear hL ht hc hk hcnt hrun HS hc2 hdl hd1 hlk hcq r0 g0 fl fh hvc hk0 hkr hvn hσ1 hc1 hkp hs;generalize (σ.count:Int)=ca at*;generalize ((σ.count+dl:Nat):Int)=cb at*;generalize ((σ2.looks+dl:Nat):Int)=lb at*;go_enter Tryz.func38,Tryz.ntmps38;go_wp2_with (go_at_call 36;refine (hsok.out _).mono ?_;rintro e w' ⟨rfl,rfl⟩);generalize hw0:w.alloc _=w0 at*
 go_quiet (fail)
 generalize hw5:w0.drewN _=w5;obtain⟨x10,z10,h6⟩:=H5.out _ w5 hw5;obtain⟨y2,y4,hcn,hS,gg,fD⟩:=h6 _ rfl;have HC:=zH hcn;have HX:=zH (zA hS (zA gg fD));clear hcn hS gg fD h6 hw5 hw0 H5 v0 v1 hwx;go_wp2_with (go_at_call 69;refine HC.out.mono ?_;rintro e w' ⟨rfl,rfl⟩);refine HX.out.1.mono ?_;rintro e w2 ⟨A2,v,rfl,q1,q2,q3,q4⟩;subst hok;have hv:v=.nilFunc:=q4;clear q4;subst hv;obtain⟨x4,z4,h3⟩:=H7.out A2 w2 .nilFunc _ rfl q1 q3;obtain⟨y23,z23,y2',hcn,h4⟩:=h3 _ rfl;have HC2:=zH hcn;have HX2:=zH (zA q1 (zA q2 (zA q3 h4)));clear hcn h3 h4 q1 q2 q3 H7 x10 z10 y2 y4;go_wp2_with fail;generalize hw3:w2.setCell ⟨A.bc s,4,none⟩ .nilFunc=w3 at*;refine wp_region_still_tail 14 (by kernel_rfl) (by kernel_rfl) ?_;simp only[zta,ztb,ztc,ztd]
 repeat still_step
 still_call HC2.out
 repeat still_step
 refine wpStill_nil ?_;change wpList _ _ _ _ _ w3.drew;have y23d:w3.drew.cell? ⟨A.be,23,none⟩=some (zi (σ2.looks:Int)):=y23;have z23d:w3.drew.frozen? ⟨A.be,23,none⟩=false:=z23;generalize w3.drew=wd at*;obtain⟨r4,g4,a10,a11⟩:=HX2.out.2.2.2 _ rfl;rw[hw] at a10;rw[hov] at a11;obtain⟨hc2,hdl,hcq,hs,_⟩:=HF.out;have q3:=HX2.out.2.2.1;have ebe:A2.be=A.be:=q3.be;have ebc:A2.bc=A.bc:=q3.bc;have hc4:({σ2.setC s {c2 with k:=none} with looks:=σ2.looks+dl}:St).calls.getD s none=some {c2 with k:=none}:=by show (σ2.setC s {c2 with k:=none}).calls.getD s none=_;rw[getC_set (lt_of_call hc2),if_pos rfl]
 have m13:=r4.eng (13+s) (engCs_call {A2 with vnext:=upF A2.vnext s .nilFunc} _ hs);have z13:=r4.engF (13+s);obtain⟨r5,g5⟩:=r4.vcallSet hs (.pointer none);have m8:=r5.call hc4 8 (v:=zi (c2.r.over:Int)) rfl;have m5:=r5.eng (5+s) (engCs_txn {A2 with vnext:=upF A2.vnext s .nilFunc,vcall:=upF A2.vcall s (.pointer none)} _ hs);have z5:=r5.engF (5+s);obtain⟨r6,g6⟩:=r5.dropTxn hs;have hown:=r6.mem.all (.pairs s);rw[mem_pairs (A:={A2 with vnext:=upF A2.vnext s .nilFunc,vcall:=upF A2.vcall s (.pointer none)}) (σ:={({σ2.setC s {c2 with k:=none} with looks:=σ2.looks+dl}:St) with txns:=({σ2.setC s {c2 with k:=none} with looks:=σ2.looks+dl}:St).txns.set s none}) hc4] at hown;obtain⟨pa,pcap,hpv,_⟩:=Ow.own_form hown.1;rw[show ({c2 with k:=none}:Cal).r.pairs.length=0 by rw[show ({c2 with k:=none}:Cal).r.pairs=[] from hpr];rfl] at hpv;have p0:=r6.call hc4 5 (v:=zi (c2.r.e:Int)) rfl;have p1:=r6.call hc4 6 (v:=zi (c2.r.value:Int)) rfl;have p2:=r6.call hc4 7 (v:=A2.vpairs s) rfl;have p3:=r6.call hc4 8 (v:=zi (c2.r.over:Int)) rfl;have p4:=r6.call hc4 9 (v:=zi (c2.r.reason:Int)) rfl;rw[show A2.vpairs s=.slice pa 0 pcap from hpv] at p2;simp only[ebe,ebc] at m13 z13 r5 g5 m8 m5 z5 r6 g6 p0 p1 p2 p3 p4;have d1:((c2.r.over:Int)==0)=false:=by simp;omega
 have d2:((c2.r.over:Int) !=0)=true:=by simp;omega
 have d3:((c2.r.over:Int)=0)=False:=by simp;omega
 have fD:=tmp_grow (tmp_grow (tmp_grow (tmp_grow HX.out.2.2 HX2.out.2.1) g4) g5) g6;have HY:=zH (zA r6 (zA (((g4.trans g5).trans g6)) (zA fD (zA hpr hro))));have HCP:=zH (copied_nil (((wd.setCell ⟨A.be,23,none⟩ (zi lb)).setCell ⟨A.be,13+s,none⟩ (.pointer none)).setCell ⟨A.be,5+s,none⟩ (.pointer none)) c2.r.e c2.r.value c2.r.over c2.r.reason pa pcap);clear r4 g4 r5 g5 r6 g6 fD hown hpv q3 ebe ebc hc4 hc2 hdl hcq hw hov hpr hro;go_wp2_with (first|(go_at_call 49;refine HCP.out.mono ?_;rintro e w7 ⟨rfl,hb⟩;have HB7:=zH hb;have HTH:=zH (there_of (tmp_grow HY.out.2.2.1 (Grow.below (L:=A2.L) hb)).2);clear hb)|(refine wpList_store_mid rfl 127 (.tmp 4) (.tmp 115) rfl w.heap.size 0 #[zi 3,zi (c2.r.e:Int),zi (c2.r.value:Int),.slice none 0 0,zi (c2.r.over:Int),zi (c2.r.reason:Int)] rfl rfl HTH.out (by kernel_rfl) (by simp[Value.oneCell']) ?_;generalize hws:World.setCells _ _ _ _=ws));have hbut:=But.setCells w.heap.size [zi 3,zi (c2.r.e:Int),zi (c2.r.value:Int),.slice none 0 0,zi (c2.r.over:Int),zi (c2.r.reason:Int)] 0 w7;have fD:=tmp_grow HY.out.2.2.1 (Grow.below (L:=A2.L) HB7.out);have hfin:=heap_setCells6 fD.2 (zi 3) (zi (c2.r.e:Int)) (zi (c2.r.value:Int)) (.slice none 0 0) (zi (c2.r.over:Int)) (zi (c2.r.reason:Int));rw[show w7.setCells w.heap.size 0 [zi 3,zi (c2.r.e:Int),zi (c2.r.value:Int),.slice none 0 0,zi (c2.r.over:Int),zi (c2.r.reason:Int)]=ws from hws] at hbut hfin
 (try simp only[Exit.inBlock,Exit.then])
 refine bodyPost_ret (results_cell_tmp_row rfl _ _ w.heap.size 127 #[zi 3,zi (c2.r.e:Int),zi (c2.r.value:Int),.slice none 0 0,zi (c2.r.over:Int),zi (c2.r.reason:Int)] _ _ rfl hfin Tryz.underlying127 rfl (by kernel_rfl)) rfl ?_;rw[HQ.out];obtain⟨hc2,hdl,hcq,hs,_⟩:=HF.out;obtain⟨q1,q2,q3,_⟩:=HX2.out;obtain⟨r6,g6,_,hpr,hro⟩:=HY.out;have r7:=((r6.below HB7.out).dropCall s).but fD.1 hbut;have gg:=((((HX.out.2.1.trans q2).trans g6).trans (Grow.below (L:=A2.L) HB7.out)).but (Nat.le_refl _) hbut)
 have hlen:s<(σ2.setC s {c2 with k:=none}).calls.length:=by have:=lt_of_call hc2;simpa [St.setC] using this
 have hns:((σ2.setC s {c2 with k:=none}).calls.set s none).getD s none=none:=by rw[getD_set _ _ _ _ _ hlen,if_pos rfl]
 refine⟨{A2 with be:=A.be,bc:=A.bc,vnext:=upF A2.vnext s .nilFunc,vcall:=upF A2.vcall s (.pointer none)},.slice none 0 0,rfl,by rw[hpr];exact FRow.nil _ _ _,Live.of (s:=s) HL0.out HSW.out r7 gg ⟨(by show (A.be,A2.swf)=_;rw[show A2.swf=A.swf from congrArg (·.2) q3.bf];rfl),q3.mp,q3.mt,fun q _=>congrFun q3.bt q,fun q _=>rfl,q3.bx,q3.vpairs,fun q hq=>(upF_other _ _ hq).trans (congrFun q3.vnext q),fun q hq=>(upF_other _ _ hq).trans (congrFun q3.vcall q)⟩ (fun q hq=>?_) (fun c' hcc=>?_) (fun hnn=>upF_same _ _ _),gg,rfl⟩
 · show ((σ2.setC s {c2 with k:=none}).calls.set s none).getD q none=_
   rw[getD_set _ _ _ _ _ hlen,if_neg hq,getC_set (lt_of_call hc2),if_neg hq];exact hcq q hq
 · have h0:=hns.symm.trans hcc
   cases h0
variable {A:Book} {σ:St} {w:World}
theorem change_none (hR:Rep A σ w) (s:Nat) (t:Txn) (ht:σ.txns.getD s none=some t) (c:Cal) (hc:σ.calls.getD s none=some c) (hx:t.cell c.op.key=none):
 Calls Tryz.prog 92 #[.pointer (some ⟨A.be,0,none⟩),.pointer (some ⟨A.bt s,0,none⟩),.pointer (some ⟨A.bc s,0,none⟩)] w (Tells A w s (σ,.start ⟨c.op.key,t.begin_,.change⟩)):=by
 obtain⟨r3,g3,_,_,_⟩:=allocs3 hR #[.pointer (some ⟨A.be,0,none⟩)] 32 #[.pointer (some ⟨A.bt s,0,none⟩)] 93 #[.pointer (some ⟨A.bc s,0,none⟩)] 98;have k1:=r3.call hc 1 (v:=zi (c.op.key:Int)) rfl;obtain⟨r4,g4,f0,f1,f2,f3⟩:=allocs4 hR #[.pointer (some ⟨A.be,0,none⟩)] 32 #[.pointer (some ⟨A.bt s,0,none⟩)] 93 #[.pointer (some ⟨A.bc s,0,none⟩)] 98 #[zi (c.op.key:Int)] 3;have a0:=f0.cell 0 (v:=.pointer (some ⟨A.be,0,none⟩)) rfl;have a1:=f1.cell 0 (v:=.pointer (some ⟨A.bt s,0,none⟩)) rfl;have a2:=f2.cell 0 (v:=.pointer (some ⟨A.bc s,0,none⟩)) rfl;have a3:=f3.cell 0 (v:=zi (c.op.key:Int)) rfl;have a7:=r4.txn ht 7 (v:=.map (some (A.bm s))) rfl;have ab:=r4.txn ht 3 (v:=zu (t.begin_:Int)) rfl;have hlk:=fun n=>lookup_run (r4.drewN n) ht c.op.key
 have hpx:A.px s t c.op.key=.pointer none:=by unfold Book.px;rw[hx];rfl
 rw[hpx] at hlk;have gd:=fun n=>(Grow.drewN A.L ((((w.alloc (.cells #[.pointer (some ⟨A.be,0,none⟩)] 32)).alloc (.cells #[.pointer (some ⟨A.bt s,0,none⟩)] 93)).alloc (.cells #[.pointer (some ⟨A.bc s,0,none⟩)] 98)).alloc (.cells #[zi (c.op.key:Int)] 3)) n).trans (Grow.drew A.L _)
 have HF:=zH (fun n=>zA (find_any (r4.drewN n).drew s c.op.key t.begin_ (.func (.func 122) #[] #[.pointer (some ⟨w.heap.size+1+1,0,none⟩),.pointer (some ⟨w.heap.size+1,0,none⟩),.pointer (some ⟨w.heap.size+1+1+1,0,none⟩),.pointer (some ⟨w.heap.size,0,none⟩)]) .change ⟨_,_,_,_,rfl,f2.box.grow (gd n),f1.box.grow (gd n),f3.box.grow (gd n),f0.box.grow (gd n)⟩) (g4.trans (gd n)));clear hR ht hc hx r3 g3 r4 g4 f0 f1 f2 f3 gd hpx;generalize c.op.key=key at*;generalize t.begin_=bg at*;go_enter Tryz.func92,Tryz.ntmps92;go_wp2_with fail;generalize (((w.alloc _).alloc _).alloc _).alloc _=w4 at*
 go_quiet (fail)
 go_wp2_with fail;generalize hw5:w4.drewN _=w5;have e0:w5.cell? ⟨w.heap.size,0,none⟩=some (.pointer (some ⟨A.be,0,none⟩)):=by rw[←hw5];exact a0
 have e1:w5.cell? ⟨w.heap.size+1,0,none⟩=some (.pointer (some ⟨A.bt s,0,none⟩)):=by rw[←hw5];exact a1
 have e3:w5.cell? ⟨w.heap.size+1+1+1,0,none⟩=some (zi (key:Int)):=by rw[←hw5];exact a3
 have eb:w5.cell? ⟨A.bt s,3,none⟩=some (zu (bg:Int)):=by rw[←hw5];exact ab
 have HF0:∀ n,w4.drewN n=w5→Calls Tryz.prog 106 #[.pointer (some ⟨A.be,0,none⟩),.pointer (some ⟨A.bt s,0,none⟩),zi (key:Int),zu (bg:Int),.func (.func 122) #[] #[.pointer (some ⟨w.heap.size+1+1,0,none⟩),.pointer (some ⟨w.heap.size+1,0,none⟩),.pointer (some ⟨w.heap.size+1+1+1,0,none⟩),.pointer (some ⟨w.heap.size,0,none⟩)]] w5.drew (Tells A w5.drew s (σ,.start ⟨key,bg,.change⟩))∧Grow A.L w A.L w5.drew:=fun n h=>by rw[←h];exact HF.out n
 have HF1:=HF0 _ hw5;have HF2:=zH HF1;clear a0 a1 a2 a3 a7 ab hlk HF HF0 HF1 hw5;refine wp_region_still_tail 8 (by kernel_rfl) (by kernel_rfl) ?_;simp only[zta,ztb,ztc,ztd]
 repeat still_step
 refine wpStill_nil ?_;go_wp2_with (go_at_call 106;refine (HF2.out.1).mono ?_;rintro e w2 ⟨A2,v,rfl,p1,p2,p3,p4⟩);go_ret;exact⟨A2,v,rfl,p1,HF2.out.2.trans p2,p3,p4⟩
theorem first_tells (hR:Rep A σ w) (s:Nat) (c:Cal) (hc:σ.calls.getD s none=some c) (Q:Ending→World→Prop) (h1:c.op.kind=1→Calls Tryz.prog 88 #[.pointer (some ⟨A.be,0,none⟩),.pointer (some ⟨A.bt s,0,none⟩),.pointer (some ⟨A.bc s,0,none⟩)] w Q) (h5:c.op.kind=5→Calls Tryz.prog 89 #[.pointer (some ⟨A.be,0,none⟩),.pointer (some ⟨A.bt s,0,none⟩),.pointer (some ⟨A.bc s,0,none⟩),zi (c.op.key:Int)] w Q) (h6:c.op.kind=6→Calls Tryz.prog 90 #[.pointer (some ⟨A.be,0,none⟩),.pointer (some ⟨A.bt s,0,none⟩),.pointer (some ⟨A.bc s,0,none⟩)] w Q) (h7:c.op.kind=7→Calls Tryz.prog 91 #[.pointer (some ⟨A.be,0,none⟩),.pointer (some ⟨A.bt s,0,none⟩),.pointer (some ⟨A.bc s,0,none⟩),zi 0,zi 1] w Q)
 (hz:c.op.kind≠1→c.op.kind≠5→c.op.kind≠6→c.op.kind≠7→Calls Tryz.prog 92 #[.pointer (some ⟨A.be,0,none⟩),.pointer (some ⟨A.bt s,0,none⟩),.pointer (some ⟨A.bc s,0,none⟩)] w Q) (hQ:∀ e w',Q e w'→∃ v,e=.returned v):
 Calls Tryz.prog 68 #[.pointer (some ⟨A.be,0,none⟩),.pointer (some ⟨A.bt s,0,none⟩),.pointer (some ⟨A.bc s,0,none⟩)] w Q:=by
 have k0:w.cell? ⟨A.bc s,0,none⟩=some (zi (c.op.kind:Int)):=hR.call hc 0 rfl;have k1:w.cell? ⟨A.bc s,1,none⟩=some (zi (c.op.key:Int)):=hR.call hc 1 rfl;clear hR hc;generalize c.op.kind=kd at*;generalize c.op.key=key at*;have HQ:=zH hQ;clear hQ
 by_cases k1':kd=1
 · subst k1'
   have k0':w.cell? ⟨A.bc s,0,none⟩=some (zi 1):=k0;clear k0;have HC:=zH (h1 rfl);clear h1 h5 h6 h7 hz;go_enter Tryz.func68,Tryz.ntmps68;go_wp2_with (go_at_call 88;refine HC.out.mono ?_;intro e w2 hq;obtain⟨v,rfl⟩:=HQ.out e w2 hq;have HV:=zH hq;clear hq);exact HV.out
 · skip
   by_cases k5':kd=5
   · subst k5'
     have k0':w.cell? ⟨A.bc s,0,none⟩=some (zi 5):=k0;clear k0;have HC:=zH (h5 rfl);clear h1 h5 h6 h7 hz;clear k1';go_enter Tryz.func68,Tryz.ntmps68;go_wp2_with (go_at_call 89;refine HC.out.mono ?_;intro e w2 hq;obtain⟨v,rfl⟩:=HQ.out e w2 hq;have HV:=zH hq;clear hq);exact HV.out
   · skip
     by_cases k6':kd=6
     · subst k6'
       have k0':w.cell? ⟨A.bc s,0,none⟩=some (zi 6):=k0;clear k0;have HC:=zH (h6 rfl);clear h1 h5 h6 h7 hz;clear k1' k5';go_enter Tryz.func68,Tryz.ntmps68;go_wp2_with (go_at_call 90;refine HC.out.mono ?_;intro e w2 hq;obtain⟨v,rfl⟩:=HQ.out e w2 hq;have HV:=zH hq;clear hq);exact HV.out
     · skip
       by_cases k7':kd=7
       · subst k7'
         have k0':w.cell? ⟨A.bc s,0,none⟩=some (zi 7):=k0;clear k0;have HC:=zH (h7 rfl);clear h1 h5 h6 h7 hz;clear k1' k5' k6';go_enter Tryz.func68,Tryz.ntmps68;go_wp2_with (go_at_call 91;refine HC.out.mono ?_;intro e w2 hq;obtain⟨v,rfl⟩:=HQ.out e w2 hq;have HV:=zH hq;clear hq);exact HV.out
       · skip
         have a1:((kd:Int)==1)=false:=by simp;omega
         have b1:((kd:Int)=1)=False:=by simp;omega
         have n1:(kd=1)=False:=by simp;omega
         have a5:((kd:Int)==5)=false:=by simp;omega
         have b5:((kd:Int)=5)=False:=by simp;omega
         have n5:(kd=5)=False:=by simp;omega
         have a6:((kd:Int)==6)=false:=by simp;omega
         have b6:((kd:Int)=6)=False:=by simp;omega
         have n6:(kd=6)=False:=by simp;omega
         have a7:((kd:Int)==7)=false:=by simp;omega
         have b7:((kd:Int)=7)=False:=by simp;omega
         have n7:(kd=7)=False:=by simp;omega
         have HC:=zH (hz k1' k5' k6' k7');clear h1 h5 h6 h7 hz;clear k1' k5' k6' k7';go_enter Tryz.func68,Tryz.ntmps68;go_wp2_with (go_at_call 92;refine HC.out.mono ?_;intro e w2 hq;obtain⟨v,rfl⟩:=HQ.out e w2 hq;have HV:=zH hq;clear hq);exact HV.out
def Told (A:Book) (w:World) (s:Nat) (σ':St):Ending→World→Prop:=fun e w'=>e=.returned (.tuple #[])∧∃ A',Rep A' σ' w'∧Grow A.L w A'.L w'∧Stay A A' s∧A'.bx=A.bx∧A'.vpairs=A.vpairs
theorem tell1_any (hR:Rep A σ w) (s:Nat) (t:Txn) (ht:σ.txns.getD s none=some t) (e:Ev) (kk tt rr:Int) (hcs:evCs e (.slice none 0 0)=[zi kk,zi tt,zu 0,zi 0,zi 0,zi 0,zi 0,zi 0,zi 0,.slice none 0 0,zi 0,zi rr]) (hp:e.res.pairs=[]) (hn:σ.tale.length<1000000) (b0 b1 b2:Nat) (B0:Box A.L w b0 (.pointer (some ⟨A.bt s,0,none⟩))) (B1:Box A.L w b1 (.pointer (some ⟨A.be,0,none⟩))) (TT:TypeId) (X2:Fix A.L w b2 (.cells #[zi kk,zi tt,zu 0,zi 0,zi 0,zi 0,zi 0,zi 0,zi 0,.slice none 0 0,zi 0,zi rr] TT)):
 Calls Tryz.prog 138 #[.pointer (some ⟨b0,0,none⟩),.pointer (some ⟨b1,0,none⟩),.pointer (some ⟨b2,0,none⟩)] w (Told A w s (σ.event e)):=by
 have c0:=B0.cell;have t13:w.cell? ⟨A.bt s,13,none⟩=some (.bool (A.vover s)):=hR.txn ht 13 rfl;have z13:=hR.txnF ht 13;obtain⟨r1,g1⟩:=hR.txnOver ht true;have B1':=(B1.grow g1).cell;have X2':=X2.grow g1;have x0:=X2'.cell 0 (v:=zi kk) rfl;have x1:=X2'.cell 1 (v:=zi tt) rfl;have x2:=X2'.cell 2 (v:=zu 0) rfl;have x3:=X2'.cell 3 (v:=zi 0) rfl;have x4:=X2'.cell 4 (v:=zi 0) rfl;have x5:=X2'.cell 5 (v:=zi 0) rfl;have x6:=X2'.cell 6 (v:=zi 0) rfl;have x7:=X2'.cell 7 (v:=zi 0) rfl;have x8:=X2'.cell 8 (v:=zi 0) rfl;have x9:=X2'.cell 9 (v:=.slice none 0 0) rfl;have x10:=X2'.cell 10 (v:=zi 0) rfl;have x11:=X2'.cell 11 (v:=zi rr) rfl;have he:=event_any r1 s e kk tt 0 0 0 0 0 0 0 0 rr none 0 0 hcs (by rw[hp];exact PRow.nil _ _) hn;have HE:=zH (zA he g1);clear hR ht B0 B1 X2 X2' r1 g1 he hcs hp hn;go_enter Tryz.func138,Tryz.ntmps138;go_wp2_with (go_at_call 65;refine HE.out.1.mono ?_;rintro e' w2 ⟨rfl,A2,q1,q2,q3,q4,q5⟩)
 go_end0
 exact⟨rfl,A2,q1,HE.out.2.trans q2,⟨q3.bf,q3.ba,q3.bp,q3.bt,q3.bm,q3.bc,q3.vnext,q3.vcall,q3.vsweep,q3.mp,q3.mt,q3.bx,q3.vpairs⟩,q4,q5⟩
theorem tell_any (hR:Rep A σ w) (s:Nat) (t:Txn) (ht:σ.txns.getD s none=some t) (hm:A.mt s=0) (e:Ev) (kk tt rr:Int) (hcs:evCs e (.slice none 0 0)=[zi kk,zi tt,zu 0,zi 0,zi 0,zi 0,zi 0,zi 0,zi 0,.slice none 0 0,zi 0,zi rr]) (hp:e.res.pairs=[]) (hn:σ.tale.length<1000000):
 Calls Tryz.prog 117 #[.pointer (some ⟨A.be,0,none⟩),.pointer (some ⟨A.bt s,0,none⟩),.agg #[zi kk,zi tt,zu 0,zi 0,zi 0,zi 0,zi 0,zi 0,zi 0,.slice none 0 0,zi 0,zi rr]] w (Told A w s (σ.tellEnd s e)):=by
 obtain⟨r3,g3,f0,f1,f2⟩:=allocs3 hR #[.pointer (some ⟨A.be,0,none⟩)] 32 #[.pointer (some ⟨A.bt s,0,none⟩)] 93 #[zi kk,zi tt,zu 0,zi 0,zi 0,zi 0,zi 0,zi 0,zi 0,.slice none 0 0,zi 0,zi rr] 83;have a1:=f1.cell 0 (v:=.pointer (some ⟨A.bt s,0,none⟩)) rfl
 by_cases ho:t.over=true
 · have e0:σ.tellEnd s e=σ:=by unfold St.tellEnd;rw[txn_get ht,if_pos ho]
   rw[e0];have t10:=r3.txn ht 10 (v:=.int .u32 1) (by simp[txnCs,onceCs,ho]);have HD:=zH (fun fv=>do_done ⟨A.bt s,10,none⟩ fv _ t10);have HR:=zH (zA r3 g3);clear hR ht r3 g3 f0 f1 f2 hm hcs hp hn ho e0 t10;go_enter Tryz.func117,Tryz.ntmps117;go_wp2_with (go_at_call 137;refine (HD.out _).mono ?_;rintro e' w2 ⟨rfl,rfl⟩)
   go_end0
   exact⟨rfl,A,HR.out.1,HR.out.2,Stay.refl _ _,rfl,rfl⟩
 · have ho':t.over=false:=by simpa using ho
   have e0:σ.tellEnd s e=(σ.setT s {t with over:=true}).event e:=by unfold St.tellEnd;rw[txn_get ht,if_neg ho]
   rw[e0];have t10:=r3.txn ht 10 (v:=.int .u32 0) (by simp[txnCs,onceCs,ho']);have t11:=r3.txn ht 11 (v:=.int .i32 0) (by simp[txnCs,onceCs,hm]);have z10:=r3.txnF ht 10;have z11:=r3.txnF ht 11;obtain⟨r4,g4⟩:=r3.txnLock ht 1;have hf:=tell1_any r4 s t ht e kk tt rr hcs hp hn (w.heap.size+1) w.heap.size (w.heap.size+1+1) (f1.box.grow g4) (f0.box.grow g4) _ (f2.grow g4)
   have hd := do_first (A.bt s) 10 138 #[.pointer (some ⟨w.heap.size + 1, 0, none⟩), .pointer (some ⟨w.heap.size, 0, none⟩), .pointer (some ⟨w.heap.size + 1 + 1, 0, none⟩)] _ _ t10 t11 z10 z11 (enter_tell _) hf (by
     rintro w' ⟨A',q1,q2,q3,q4,q5⟩
     have ht':(σ.event e).txns.getD s none=some t:=ht
     have b10:=q1.txn ht' 10 (v:=.int .u32 0) (by simp[txnCs,onceCs,ho'])
     have b11:=q1.txn ht' 11 (v:=.int .i32 1) (by simp[txnCs,onceCs,q3.mt])
     have y10:=q1.txnF ht' 10
     have y11:=q1.txnF ht' 11
     rw[q3.bt] at b10 b11 y10 y11
     exact⟨b10,b11,y10,y11⟩)
   have HD:=zH hd;have HR:=zH (zA g3 g4);have HT:=zH (zA ht hm);clear hR ht r3 g3 f0 f1 f2 hm hcs hp hn ho ho' e0 t10 t11 z10 z11 r4 g4 hf hd;go_enter Tryz.func117,Tryz.ntmps117;go_wp2_with (go_at_call 137;refine HD.out.mono ?_;rintro e' w2 ⟨rfl,w3,⟨A',q1,q2,q3,q4,q5⟩,rfl⟩)
   go_end0
   have ht':(σ.event e).txns.getD s none=some t:=HT.out.1;obtain⟨k1,g5⟩:=q1.drew.txnDone ht';have ht2:((σ.event e).setT s {t with over:=true}).txns.getD s none=some {t with over:=true}:=by rw[getT_set (lt_of_txn ht'),if_pos rfl]
   obtain⟨k2,g6⟩:=k1.txnLock ht2 0;have gg:=((((HR.out.1.trans HR.out.2).trans q2).trans (Grow.drew _ _)).trans g5).trans g6;have eb:A'.bt s=A.bt s:=by rw[q3.bt]
   rw[eb] at k2 gg;refine⟨rfl,_,k2,gg,⟨q3.bf,q3.ba,q3.bp,q3.bt,q3.bm,q3.bc,q3.vnext,q3.vcall,q3.vsweep,q3.mp,?_,q3.bx,q3.vpairs⟩,q4,q5⟩;show (fun k=>if k=s then 0 else A'.mt k)=A.mt;rw[q3.mt]
   funext k
   show (if k=s then 0 else if k=s then 1 else A.mt k)=A.mt k
   by_cases hk:k=s
   · rw[if_pos hk,hk,HT.out.2]
   · rw[if_neg hk,if_neg hk]
theorem infoPr:(Tryz.prog.info? 134).map (fun i=>(i.zero,i.size,i.bytes))=some (some (.agg #[zi 0,zi 0]),2,16):=by kernel_rfl
theorem pairCs_one:∀ (l:List (Nat×Nat)),∀ u∈pairCs l,u.oneCell'=true
 |[],u,h=>by cases h
 |p::l,u,h=>by
  have e:pairCs (p::l)=zi (p.1:Int)::zi (p.2:Int)::pairCs l:=rfl;rw[e] at h
  rcases List.mem_cons.1 h with rfl|h
  · rfl
  · rcases List.mem_cons.1 h with rfl|h
    · rfl
    · exact pairCs_one l u h
theorem own_but {w w':World} {base:Nat} {v:Value} {n b:Nat} {xs:List Value} {cs:Array Value} {T:TypeId} (h:w.ownsRow base 134 2 v n xs) (hb:But b w w') (hc:w.heap[b]? =some (.cells cs T)) (hT:T≠134):w'.ownsRow base 134 2 v n xs:=by
 rcases h.2 with ⟨e1,e2⟩|⟨g,cap',cur,hv,hb',hg,hx1,hx2,hx3,hx4⟩
 · exact⟨h.1,.inl ⟨e1,e2⟩⟩
 · have hgne:g≠b:=by
    rintro rfl;rw[hc] at hg;simp only[Option.some.injEq,Obj.cells.injEq] at hg;exact hT hg.2.1
   exact⟨h.1,.inr ⟨g,cap',cur,hv,hb',(hb.block g hgne).trans hg,hx1,hx2,hx3,hx4⟩⟩
theorem copied_any (w:World) (re rv ro rr:Int) (a:Option Addr) (n cap:Nat) (ps:List (Nat×Nat)) (hr:Ow.Row w 0 2 (.slice a n cap) (pairCs ps)) (hn:ps.length=n) (hl:n≤1000000):
 Calls Tryz.prog 49 #[.agg #[zi re,zi rv,.slice a n cap,zi ro,zi rr]] w fun e w'=>∃ a' c',e=.returned (.agg #[zi re,zi rv,.slice a' n c',zi ro,zi rr])∧w'.ownsRow w.heap.size 134 2 (.slice a' n c') n (pairCs ps)∧Below w.heap.size w w':=by
 obtain⟨i0,hi,hz0,hz1,hz2⟩:=info_parts infoPr;have HR:=zH hr;have HM:=zH (zA hn hl);obtain⟨W,hW⟩:∃ W,W=(w.alloc (.cells #[zi re,zi rv,.slice a n cap,zi ro,zi rr] 49)).alloc (.cells #[zi 0,zi 0,.slice none 0 0,zi 0,zi 0] 49):=⟨_,rfl⟩
 have hWs:W.heap.size=w.heap.size+1+1:=by rw[hW];simp
 have hWb:Below w.heap.size w W:=by rw[hW];exact (((Below.refl _ _).alloc (Nat.le_refl _) _)).alloc (by simp) _
 have hW0:W.heap[w.heap.size]? =some (.cells #[zi re,zi rv,.slice a n cap,zi ro,zi rr] 49):=by rw[hW,heap_alloc_old _ _ (by simp),heap_alloc_new]
 have hW1:W.heap[w.heap.size+1]? =some (.cells #[zi 0,zi 0,.slice none 0 0,zi 0,zi 0] 49):=by
  have:=heap_alloc_new (w.alloc (.cells #[zi re,zi rv,.slice a n cap,zi ro,zi rr] 49)) (.cells #[zi 0,zi 0,.slice none 0 0,zi 0,zi 0] 49);rw[hW];simpa using this
 have HW:=zH (zA hWs (zA hWb (zA hW0 (zA hW1 (hr.below hWb)))));have HF:Hid (∀ v' w2,w2.ownsRow w.heap.size 134 2 v' n (pairCs ps)→W.grownBy w2 none→∃ a' c',v'=.slice a' n c'∧w2.heap[w.heap.size]? =some (.cells #[zi re,zi rv,.slice a n cap,zi ro,zi rr] 49)∧w2.heap[w.heap.size+1]? =some (.cells #[zi 0,zi 0,.slice none 0 0,zi 0,zi 0] 49)∧w2.cell? ⟨w.heap.size,2,none⟩=some (.slice a n cap)∧w2.frozen? ⟨w.heap.size,2,none⟩=false∧Below w.heap.size w w2):=by
  intro v' w2 q1 q2;obtain⟨a',c',rfl,_⟩:=Ow.own_form q1;have h0:w2.heap[w.heap.size]? =_:=(q2.block _ (by rw[hWs];omega) (by simp)).trans hW0;have h1:w2.heap[w.heap.size+1]? =_:=(q2.block _ (by rw[hWs];omega) (by simp)).trans hW1;refine⟨a',c',rfl,h0,h1,by simp[World.cell?,h0],by simp[World.frozen?,h0],⟨q2.os.trans hWb.os,q2.tape.trans hWb.tape,q2.output.trans hWb.output,Nat.le_trans hWb.size q2.size,fun b hb=>(q2.block b (by rw[hWs];omega) (by simp)).trans (hWb.block b hb)⟩⟩
 have w1c:W.cell? ⟨w.heap.size,2,none⟩=some (.slice a n cap):=by simp[World.cell?,hW0]
 clear hW0 hW1 hWb hr hn hl;go_enter Tryz.func49,Tryz.ntmps49;go_upto_region 1 with fail
 rw[←hW];clear hW;go_upto_region 2 with (refine Ow.wpList_append_row W rfl (.const (.slice none 0 0)) (.tmp 4) 47 rfl w.heap.size 134 i0 _ 2 16 Tryz.underlying47 hi hz0 hz1 hz2 rfl (by decide) (.slice none 0 0) 0 [] rfl (World.ownsRow_nil _ _ _ _) 0 (.slice a n cap) (pairCs ps) rfl HW.out.2.2.2.2 n (by rw[pairCs_len,HM.out.1]) (pairCs_one ps) (by have:=HM.out.2;unfold maxLen;omega) (by have:=HM.out.2;omega) (by rw[HW.out.1];omega) ?_;intro v' w2 q1 q2;rw[List.nil_append,Nat.zero_add] at q1;obtain⟨a',c',rfl,f0,f1,f2,f3,f4⟩:=HF.out _ _ q1 q2;have HQ:=zH (zA q1 (zA f0 (zA f1 f4)));clear q1 q2 f0 f1 f4)
 generalize hw3:w2.setCell ⟨w.heap.size,2,none⟩ (.slice a' n c')=w3 at*;obtain⟨q1,f0,f1,f4⟩:=HQ.out;have g0:w3.heap[w.heap.size]? =some (.cells #[zi re,zi rv,.slice a' n c',zi ro,zi rr] 49):=by rw[←hw3];exact heap_setCell_same f0 2 _
 have g1:w3.heap[w.heap.size+1]? =some (.cells #[zi 0,zi 0,.slice none 0 0,zi 0,zi 0] 49):=by rw[←hw3,Below.heap_setCell _ _ _ _ (by simp)];exact f1
 have gb:Below w.heap.size w w3:=by rw[←hw3];exact⟨f4.os,f4.tape,f4.output,by simpa [World.setCell] using f4.size,fun b hb=>(Below.heap_setCell _ _ _ _ (by rintro rfl;simp at hb)).trans (f4.block b hb)⟩
 have go:w3.ownsRow w.heap.size 134 2 (.slice a' n c') n (pairCs ps):=by
  rw[←hw3];exact own_but q1 (But.setCell w2 ⟨w.heap.size,2,none⟩ _) f0 (by decide)
 have HG:=zH (zA g0 (zA (there_of g1) (zA gb (zA go g1))));have y0:w3.cell? ⟨w.heap.size,0,none⟩=some (zi re):=by simp[World.cell?,g0]
 have y1:w3.cell? ⟨w.heap.size,1,none⟩=some (zi rv):=by simp[World.cell?,g0]
 have y2:w3.cell? ⟨w.heap.size,2,none⟩=some (.slice a' n c'):=by simp[World.cell?,g0]
 have y3:w3.cell? ⟨w.heap.size,3,none⟩=some (zi ro):=by simp[World.cell?,g0]
 have y4:w3.cell? ⟨w.heap.size,4,none⟩=some (zi rr):=by simp[World.cell?,g0]
 clear q1 f0 f1 f4 g0 g1 gb go HQ HF f2 f3 w1c;go_wp2_with (refine wpList_store_mid rfl 49 (.tmp 2) (.tmp 7) rfl (w.heap.size+1) 0 #[zi re,zi rv,.slice a' n c',zi ro,zi rr] rfl rfl HG.out.2.1 (by kernel_rfl) (by simp[Value.oneCell']) ?_;generalize hws:World.setCells _ _ _ _=ws);have hfin:=heap_setCells5 HG.out.2.2.2.2 (zi re) (zi rv) (.slice a' n c') (zi ro) (zi rr);have hbut:=But.setCells (w.heap.size+1) [zi re,zi rv,.slice a' n c',zi ro,zi rr] 0 w3;rw[show w3.setCells (w.heap.size+1) 0 [zi re,zi rv,.slice a' n c',zi ro,zi rr]=ws from hws] at hbut hfin;refine bodyPost_ret (results_cell_row rfl _ _ (w.heap.size+1) 49 #[zi re,zi rv,.slice a' n c',zi ro,zi rr] _ _ rfl hfin Tryz.underlying49 rfl (by kernel_rfl)) rfl ?_;exact⟨a',c',rfl,own_but HG.out.2.2.2.1 hbut HG.out.2.2.2.2 (by decide),⟨hbut.os.trans HG.out.2.2.1.os,hbut.tape.trans HG.out.2.2.1.tape,hbut.output.trans HG.out.2.2.1.output,by rw[hbut.size];exact HG.out.2.2.1.size,fun b hb=>(hbut.block b (by omega)).trans (HG.out.2.2.1.block b hb)⟩⟩
theorem prow_of_own {L:Lab} {w:World} {base:Nat} {a:Option Addr} {n c:Nat} {xs:List Value} (h:w.ownsRow base 134 2 (.slice a n c) n xs) (hL:∀ b,base≤b→b<w.heap.size→L b=none):PRow L w (.slice a n c) xs:=by
 obtain⟨a',c',e,h1,h2,h3⟩:=Ow.own_form h;obtain⟨rfl,rfl⟩:a=a'∧c=c':=by simpa using e
 refine⟨⟨a,n,c,rfl,h.1,h1,by unfold maxLen;omega,?_⟩,?_⟩
 · rcases h.2 with ⟨h0,hn⟩|⟨g,cap',cur,hv,hb,hg,hnc,hcm,hcs,htake⟩
   · exact .inl (by first|exact h0|omega)
   · obtain⟨rfl,rfl⟩:a=some ⟨g,0,none⟩∧c=cap':=by simpa using hv
     refine .inr ⟨g,0,rfl,hL g (h.lt g rfl).1 (h.lt g rfl).2,(h.lt g rfl).2,fun j hj=>?_⟩;rw[Nat.zero_add];exact h.cellAt j hj
 · intro g off n' cap hv
   rcases h.2 with ⟨h0,hn⟩|⟨g',cap',cur,hv',hb,hg,hnc,hcm,hcs,htake⟩
   · obtain⟨_,rfl,_⟩:a=some ⟨g,off,none⟩∧n=n'∧c=cap:=by simpa using hv
     exact .inl (by first|exact h0|omega)
   · rw[hv'] at hv
     simp only[Value.slice.injEq,Option.some.injEq,Addr.mk.injEq,and_true] at hv;obtain⟨⟨rfl,_⟩,_⟩:=hv;exact .inr ⟨cur,hg⟩
theorem step_pairs (hL:Live A σ w) (s:Nat) (hs:s<8) (t:Txn) (ht:σ.txns.getD s none=some t) (c:Cal) (hc:σ.calls.getD s none=some c) (k:K) (hk:c.k=some k) (hcnt:σ.count<3000000000000000000) (σ2:St) (ok:Option K) (hrun:(σ.setC s {c with waits:=false}).run s k=(σ2,ok)) (HS:RunsTo (σ.setC s {c with waits:=false}) s k) (c2:Cal) (hc2:σ2.calls.getD s none=some c2) (dl:Nat) (hdl:σ2.count=σ.count+dl) (hd1:dl<1000000) (hlk:σ2.looks<1000000000000000000) (hcq:∀ q,q≠s→σ2.calls.getD q none=σ.calls.getD q none) (t2:Txn) (ht2:σ2.txns.getD s none=some t2) (htl:σ2.tale.length<1000000) (hok:ok=none) (hw:c2.waits=false) (hov:c2.over=true) (hpr:c2.r.pairs.length≤1000000) (hro:c2.r.over=0):
 Calls Tryz.prog 38 #[.pointer (some ⟨A.be,0,none⟩),zi (s:Int)] w (Stepped A w (({σ2.setC s {c2 with k:=ok} with looks:=σ2.looks+dl,calls:=(σ2.setC s {c2 with k:=ok}).calls.set s none}:St).event {kind:=2,t:=t2.id,op:=c2.op,res:=c2.r}) 3 c2.r):=by
 have HSW:Hid (σ2.sw=σ.sw∧σ2.cut=σ.cut):=zH (by have h:=run_sw (σ.setC s {c with waits:=false}) s k;rw[hrun] at h;exact h);obtain⟨Q,hQ⟩:∃ Q,Q=Stepped A w (({σ2.setC s {c2 with k:=ok} with looks:=σ2.looks+dl,calls:=(σ2.setC s {c2 with k:=ok}).calls.set s none}:St).event {kind:=2,t:=t2.id,op:=c2.op,res:=c2.r}) 3 c2.r:=⟨_,rfl⟩
 rw[←hQ];have HQ:=zH hQ;clear hQ;obtain⟨r0,g0,fl,fh⟩:=hL.rep.newTmp (.cells #[zi 0,zi 0,zi 0,.slice none 0 0,zi 0,zi 0] 127);obtain⟨hvc,k0,hk0,hkr⟩:=hL.call s hs c hc;obtain rfl:k=k0:=by rw[hk] at hk0;exact Option.some.inj hk0
 obtain⟨fv,fb,fc,hvn,hent⟩:=hkr.enter;have hsok:=zH (sessionOk s hs);have b1:(s:Int)<8:=by omega
 have b0:(0:Int)≤(s:Int):=by omega
 have v0:(w.alloc (.cells #[zi 0,zi 0,zi 0,.slice none 0 0,zi 0,zi 0] 127)).cell? ⟨A.be,13+s,none⟩=some (.pointer (some ⟨A.bc s,0,none⟩)):=by rw[←show A.vcall s=.pointer (some ⟨A.bc s,0,none⟩) from hvc];exact r0.eng (13+s) (engCs_call (A.tmp w.heap.size) σ hs)
 have v1:(w.alloc (.cells #[zi 0,zi 0,zi 0,.slice none 0 0,zi 0,zi 0] 127)).cell? ⟨A.be,5+s,none⟩=some (.pointer (some ⟨A.bt s,0,none⟩)):=by
  have h:=r0.eng (5+s) (engCs_txn (A.tmp w.heap.size) σ hs);have e:(A.tmp w.heap.size).tp σ s=.pointer (some ⟨A.bt s,0,none⟩):=by unfold Book.tp;rw[ht];rfl
  rw[e] at h;exact h
 obtain⟨σ1,hσ1⟩:∃ σ1,σ1=σ.setC s {c with waits:=false}:=⟨_,rfl⟩
 rw[←hσ1] at hrun HS;have hc1:σ1.calls.getD s none=some {c with waits:=false}:=by rw[hσ1,getC_set (lt_of_call hc),if_pos rfl]
 have hkp:kp A σ1 s=kp A σ s:=by unfold kp;rw[call_get hc1,call_get hc]
 have H5:Hid (∀ n w5,(w.alloc (.cells #[zi 0,zi 0,zi 0,.slice none 0 0,zi 0,zi 0] 127)).drewN n=w5→w5.cell? ⟨A.bc s,10,none⟩=some (.bool c.waits)∧w5.frozen? ⟨A.bc s,10,none⟩=false∧∀ w6,w5.setCell ⟨A.bc s,10,none⟩ (.bool false)=w6→w6.cell? ⟨A.be,2,none⟩=some (.pointer (some ⟨A.ba,0,none⟩))∧w6.cell? ⟨A.bc s,4,none⟩=some (.func (.func fv) fb fc)∧Calls Tryz.prog 69 #[.pointer (some ⟨A.ba,0,none⟩)] w6 (fun e w'=>e=.returned (zi (σ.count:Int))∧w6=w')∧Calls Tryz.prog fv (fb++fc) w6 (Ran (A.tmp w.heap.size) w6 s (σ2,ok))∧Grow A.L w (A.tmp w.heap.size).L w6∧((A.tmp w.heap.size).L w.heap.size=some .tmp∧w6.heap[w.heap.size]? =some (.cells #[zi 0,zi 0,zi 0,.slice none 0 0,zi 0,zi 0] 127))):=by
  rintro n w5 rfl;have r5:=r0.drewN n;refine⟨r5.call hc 10 rfl,r5.callF hc 10,?_⟩;rintro w6 rfl;obtain⟨r6,g6⟩:=r5.setCall hc {c with waits:=false} 10 (.bool false) rfl rfl;have g56:=(Grow.drewN (A.tmp w.heap.size).L (w.alloc (.cells #[zi 0,zi 0,zi 0,.slice none 0 0,zi 0,zi 0] 127)) n).trans g6;have gg:=g0.trans g56;rw[←hσ1] at r6;have h4:_=some (A.vnext s):=r6.call hc1 4 rfl;rw[hvn] at h4;have h4':(((w.alloc (.cells #[zi 0,zi 0,zi 0,.slice none 0 0,zi 0,zi 0] 127)).drewN n).setCell ⟨A.bc s,10,none⟩ (.bool false)).cell? ⟨A.bc s,4,none⟩=some (.func (.func fv) fb fc):=h4;have hk6:=(hkr.grow gg)
  rw[hvn,←hkp] at hk6;have hS:=HS (A.tmp w.heap.size) _ fv fb fc r6 hL.mp (hL.mt s) hk6;rw[hrun] at hS;have hcn:=count_any r6 (by rw[hσ1];exact Nat.lt_trans hcnt (by decide));have hcc:σ1.count=σ.count:=by rw[hσ1];rfl
  rw[hcc] at hcn;exact⟨r6.eng 2 rfl,h4',hcn,hS,gg,tmp_grow ⟨fl,fh⟩ g56⟩
 have HL0:=zH hL;have HF:=zH (zA hc2 (zA hdl (zA hcq (zA hs hlk))));have n1:IntKind.i64.wrap (((σ.count+dl:Nat):Int) - (σ.count:Int))=(dl:Int):=by rw[IntKind.wrap_i64];omega
 have n2:IntKind.i64.wrap ((σ2.looks:Int)+(dl:Int))=((σ2.looks+dl:Nat):Int):=by rw[IntKind.wrap_i64];omega
 have H7 : Hid (∀ A2 w2 v A3, A3 = { A2 with vnext := upF A2.vnext s v } → Rep A2 σ2 w2 → Stay (A.tmp w.heap.size) A2 s → w2.cell? ⟨A.bc s, 4, none⟩ = some (A2.vnext s) ∧ w2.frozen? ⟨A.bc s, 4, none⟩ = false ∧ ∀ w3, w2.setCell ⟨A.bc s, 4, none⟩ v = w3 → w3.cell? ⟨A.be, 23, none⟩ = some (zi (σ2.looks : Int)) ∧ w3.frozen? ⟨A.be, 23, none⟩ = false ∧ w3.cell? ⟨A.be, 2, none⟩ = some (.pointer (some ⟨A.ba, 0, none⟩)) ∧ Calls Tryz.prog 69 #[.pointer (some ⟨A.ba, 0, none⟩)] w3.drew (fun e w' => e = .returned (zi ((σ.count + dl : Nat) : Int)) ∧ w' = w3.drew) ∧
     ∀ w4,w3.drew.setCell ⟨A.be,23,none⟩ (zi ((σ2.looks+dl:Nat):Int))=w4→Rep A3 ({σ2.setC s {c2 with k:=ok} with looks:=σ2.looks+dl}) w4∧Grow A2.L w2 A2.L w4∧w4.cell? ⟨A.bc s,10,none⟩=some (.bool c2.waits)∧w4.cell? ⟨A.bc s,11,none⟩=some (.bool c2.over)):=by
  intro A2 w2 v A3 hA3 q st;have ebc:A2.bc=A.bc:=st.bc;have ebe:A2.be=A.be:=st.be;have eba:A2.ba=A.ba:=st.ba;have x4:=q.call hc2 4 (v:=A2.vnext s) rfl;have z4:=q.callF hc2 4;rw[ebc] at x4 z4;refine⟨x4,z4,?_⟩;rintro w3 rfl;obtain⟨r3,g3⟩:=q.nextSet hc2 v ok;rw[←hA3,ebc] at r3;rw[ebc] at g3;have e3:A3.be=A.be:=by rw[hA3];exact ebe
  have e3a:A3.ba=A.ba:=by rw[hA3];exact eba
  have e3c:A3.bc=A.bc:=by rw[hA3];exact ebc
  have e3L:A3.L=A2.L:=by rw[hA3]
  have y23:=r3.eng 23 (v:=zi (σ2.looks:Int)) rfl;have z23:=r3.engF 23;have y2:=r3.eng 2 (v:=.pointer (some ⟨A3.ba,0,none⟩)) rfl;have hcn:=flip (count_any r3.drew (by show σ2.count<_;omega));rw[e3] at y23 z23 y2;rw[e3a] at hcn y2;rw[show (σ2.setC s {c2 with k:=ok}).count=σ.count+dl from hdl] at hcn;refine⟨y23,z23,y2,hcn,?_⟩;intro w4 hw4;obtain⟨r4,g4⟩:=r3.drew.looksSet (σ2.looks+dl);rw[e3,hw4] at r4 g4;rw[e3L] at g4;have hc4:({σ2.setC s {c2 with k:=ok} with looks:=σ2.looks+dl}:St).calls.getD s none=some {c2 with k:=ok}:=by show (σ2.setC s {c2 with k:=ok}).calls.getD s none=_;rw[getC_set (lt_of_call hc2),if_pos rfl]
  have a10:=r4.call hc4 10 (v:=.bool c2.waits) rfl;have a11:=r4.call hc4 11 (v:=.bool c2.over) rfl;rw[e3c] at a10 a11;exact⟨r4,(g3.trans (Grow.drew _ _)).trans g4,a10,a11⟩
 have hwx:(w.alloc (.cells #[zi 0,zi 0,zi 0,.slice none 0 0,zi 0,zi 0] 127)).cell? ⟨A.bc s,10,none⟩=some (.bool c.waits):=r0.call hc 10 rfl;have HVC:=zH hvc;clear hL ht hc hk hcnt hrun HS hc2 hdl hd1 hlk hcq r0 g0 fl fh hvc hk0 hkr hvn hσ1 hc1 hkp hs;generalize (σ.count:Int)=ca at*;generalize ((σ.count+dl:Nat):Int)=cb at*;generalize ((σ2.looks+dl:Nat):Int)=lb at*;go_enter Tryz.func38,Tryz.ntmps38;go_wp2_with (go_at_call 36;refine (hsok.out _).mono ?_;rintro e w' ⟨rfl,rfl⟩);generalize hw0:w.alloc _=w0 at*
 go_quiet (fail)
 generalize hw5:w0.drewN _=w5;obtain⟨x10,z10,h6⟩:=H5.out _ w5 hw5;obtain⟨y2,y4,hcn,hS,gg,fD⟩:=h6 _ rfl;have HC:=zH hcn;have HX:=zH (zA hS (zA gg fD));clear hcn hS gg fD h6 hw5 hw0 H5 v0 v1 hwx;go_wp2_with (go_at_call 69;refine HC.out.mono ?_;rintro e w' ⟨rfl,rfl⟩);refine HX.out.1.mono ?_;rintro e w2 ⟨A2,v,rfl,q1,q2,q3,q4⟩;subst hok;have hv:v=.nilFunc:=q4;clear q4;subst hv;obtain⟨x4,z4,h3⟩:=H7.out A2 w2 .nilFunc _ rfl q1 q3;obtain⟨y23,z23,y2',hcn,h4⟩:=h3 _ rfl;have HC2:=zH hcn;have HX2:=zH (zA q1 (zA q2 (zA q3 h4)));clear hcn h3 h4 q1 q2 q3 H7 x10 z10 y2 y4;go_wp2_with fail;generalize hw3:w2.setCell ⟨A.bc s,4,none⟩ .nilFunc=w3 at*;refine wp_region_still_tail 14 (by kernel_rfl) (by kernel_rfl) ?_;simp only[zta,ztb,ztc,ztd]
 repeat still_step
 still_call HC2.out
 repeat still_step
 refine wpStill_nil ?_;change wpList _ _ _ _ _ w3.drew;have y23d:w3.drew.cell? ⟨A.be,23,none⟩=some (zi (σ2.looks:Int)):=y23;have z23d:w3.drew.frozen? ⟨A.be,23,none⟩=false:=z23;generalize w3.drew=wd at*;obtain⟨r4,g4,a10,a11⟩:=HX2.out.2.2.2 _ rfl;rw[hw] at a10;rw[hov] at a11;obtain⟨hc2,hdl,hcq,hs,_⟩:=HF.out;have q3:=HX2.out.2.2.1;have hc4:({σ2.setC s {c2 with k:=none} with looks:=σ2.looks+dl}:St).calls.getD s none=some {c2 with k:=none}:=by show (σ2.setC s {c2 with k:=none}).calls.getD s none=_;rw[getC_set (lt_of_call hc2),if_pos rfl]
 obtain⟨A4,hA4⟩:∃ A4:Book,A4={A2 with vnext:=upF A2.vnext s .nilFunc}:=⟨_,rfl⟩
 rw[←hA4] at r4;have e4be:A4.be=A.be:=by rw[hA4];exact q3.be
 have e4L:A4.L=A2.L:=by rw[hA4]
 have m13:=r4.eng (13+s) (engCs_call A4 _ hs);have z13:=r4.engF (13+s);obtain⟨r5,g5⟩:=r4.vcallSet hs (.pointer none);obtain⟨A5,hA5⟩:∃ A5:Book,A5={A4 with vcall:=upF A4.vcall s (.pointer none)}:=⟨_,rfl⟩
 rw[←hA5,e4be] at r5;rw[e4be] at g5 m13 z13;have e5L:A5.L=A2.L:=by rw[hA5];exact e4L
 rw[e4L] at g5;have st5:StayQ A A5 s:=by
  rw[hA5,hA4];exact⟨q3.bf,q3.mp,q3.mt,fun q _=>congrFun q3.bt q,fun q _=>congrFun q3.bc q,q3.bx,q3.vpairs,fun q hq=>(upF_other _ _ hq).trans (congrFun q3.vnext q),fun q hq=>(upF_other _ _ hq).trans (congrFun q3.vcall q)⟩
 have e5bt:A5.bt=A.bt:=by rw[hA5,hA4];exact q3.bt
 have e5bc:A5.bc=A.bc:=by rw[hA5,hA4];exact q3.bc
 have e5v:A5.vcall s=.pointer none:=by rw[hA5];exact upF_same _ _ _
 have m8:=r5.call hc4 8 (v:=zi (c2.r.over:Int)) rfl;have hown:=r5.mem.all (.pairs s);rw[mem_pairs (A:=A5) hc4] at hown;obtain⟨pa,pcap,hpv,_⟩:=Ow.own_form hown.1;obtain⟨np,hnp⟩:∃ np,np=c2.r.pairs.length:=⟨_,rfl⟩
 rw[show ({c2 with k:=none}:Cal).r.pairs.length=np from hnp.symm] at hpv;rw[e5bc] at m8;rw[show (c2.r.over:Int)=0 by rw[hro];rfl] at m8;have hK0:∀ (A6:Book) (σ6:St) w',Rep A6 σ6 w'→A6.bt=A.bt→A6.bc=A.bc→A6.vpairs=A5.vpairs→σ6.txns.getD s none=some t2→σ6.calls.getD s none=some {c2 with k:=none}→w'.cell? ⟨A.bt s,0,none⟩=some (zi (t2.id:Int))∧w'.cell? ⟨A.bc s,0,none⟩=some (zi (c2.op.kind:Int))∧w'.cell? ⟨A.bc s,1,none⟩=some (zi (c2.op.key:Int))∧w'.cell? ⟨A.bc s,2,none⟩=some (zi (c2.op.hi:Int))∧w'.cell? ⟨A.bc s,3,none⟩=some (zi (c2.op.value:Int))∧w'.cell? ⟨A.bc s,5,none⟩=some (zi (c2.r.e:Int))∧w'.cell? ⟨A.bc s,6,none⟩=some (zi (c2.r.value:Int))∧w'.cell? ⟨A.bc s,7,none⟩=some (.slice pa np pcap)∧w'.cell? ⟨A.bc s,8,none⟩=some (zi (c2.r.over:Int))∧w'.cell? ⟨A.bc s,9,none⟩=some (zi (c2.r.reason:Int)):=by
  intro A6 σ6 w' r b1 b2 b3 b4 b5;have x0:=r.txn b4 0 (v:=zi (t2.id:Int)) rfl;have y0:=r.call b5 0 (v:=zi (c2.op.kind:Int)) rfl;have y1:=r.call b5 1 (v:=zi (c2.op.key:Int)) rfl;have y2:=r.call b5 2 (v:=zi (c2.op.hi:Int)) rfl;have y3:=r.call b5 3 (v:=zi (c2.op.value:Int)) rfl;have y5:=r.call b5 5 (v:=zi (c2.r.e:Int)) rfl;have y6:=r.call b5 6 (v:=zi (c2.r.value:Int)) rfl;have y7:=r.call b5 7 (v:=A6.vpairs s) rfl;have y8:=r.call b5 8 (v:=zi (c2.r.over:Int)) rfl;have y9:=r.call b5 9 (v:=zi (c2.r.reason:Int)) rfl;rw[b1] at x0;rw[b2] at y0 y1 y2 y3 y5 y6 y7 y8 y9;rw[b3,hpv] at y7;exact⟨x0,y0,y1,y2,y3,y5,y6,y7,y8,y9⟩
 have HE:Hid (∀ w6 va vc,Rep A5 ({σ2.setC s {c2 with k:=none} with looks:=σ2.looks+dl}:St) w6→PRow A5.L w6 (.slice va np vc) (pairCs c2.r.pairs)→Calls Tryz.prog 65 #[.pointer (some ⟨A.be,0,none⟩),.agg #[zi 2,zi (t2.id:Int),zu 0,zi (c2.op.kind:Int),zi (c2.op.key:Int),zi (c2.op.hi:Int),zi (c2.op.value:Int),zi (c2.r.e:Int),zi (c2.r.value:Int),.slice va np vc,zi (c2.r.over:Int),zi (c2.r.reason:Int)]] w6 (Does A5 w6 s (({σ2.setC s {c2 with k:=none} with looks:=σ2.looks+dl}:St).event {kind:=2,t:=t2.id,op:=c2.op,res:=c2.r}) (.tuple #[]))):=by
  intro w6 va vc r hp;have h:=event_any r s {kind:=2,t:=t2.id,op:=c2.op,res:=c2.r} 2 t2.id 0 c2.op.kind c2.op.key c2.op.hi c2.op.value c2.r.e c2.r.value c2.r.over c2.r.reason va np vc rfl hp htl;rw[st5.be] at h;exact h
 have HKR:Hid (∀ (A6:Book) (σ6:St) w',Rep A6 σ6 w'→A6.vpairs=A5.vpairs→σ6.calls.getD s none=some {c2 with k:=none}→Ow.Row w' 0 2 (.slice pa np pcap) (pairCs c2.r.pairs)):=by
  intro A6 σ6 w' r b3 b5;have h:=r.mem.all (.pairs s);rw[mem_pairs (A:=A6) b5] at h;have h2:=own_row h.1;rw[b3,hpv] at h2;exact h2
 have HNP:=zH (zA hnp.symm (by rw[hnp];exact hpr:np≤1000000));have HK0:=zH hK0;have fD:=tmp_grow (tmp_grow (tmp_grow HX.out.2.2 HX2.out.2.1) g4) g5;have HY:=zH (zA r5 (zA (g4.trans g5) (zA fD (zA hpr (zA hro (zA ht2 (zA hc4 (zA st5 (zA e5bt (zA e5bc (zA e5v e5L)))))))))));have S0:=hK0 A5 _ _ r5 e5bt e5bc rfl ht2 hc4;clear hnp hK0 r4 g4 r5 g5 fD hown hpv q3 hc4 hc2 hdl hcq hw hov hpr hro ht2 hA4 hA5 e4be e4L e5L st5 e5bt e5bc e5v htl;go_wp2_with fail;generalize hw5:World.setCell (World.setCell wd _ _) _ _=w5 at*;have HKB:Hid (∀ w',Below w5.heap.size w5 w'→w'.cell? ⟨A.bt s,0,none⟩=some (zi (t2.id:Int))∧w'.cell? ⟨A.bc s,0,none⟩=some (zi (c2.op.kind:Int))∧w'.cell? ⟨A.bc s,1,none⟩=some (zi (c2.op.key:Int))∧w'.cell? ⟨A.bc s,2,none⟩=some (zi (c2.op.hi:Int))∧w'.cell? ⟨A.bc s,3,none⟩=some (zi (c2.op.value:Int))∧w'.cell? ⟨A.bc s,5,none⟩=some (zi (c2.r.e:Int))∧w'.cell? ⟨A.bc s,6,none⟩=some (zi (c2.r.value:Int))∧w'.cell? ⟨A.bc s,7,none⟩=some (.slice pa np pcap)∧w'.cell? ⟨A.bc s,8,none⟩=some (zi (c2.r.over:Int))∧w'.cell? ⟨A.bc s,9,none⟩=some (zi (c2.r.reason:Int))):=fun w' hb=>HK0.out A5 _ _ (HY.out.1.below hb) HY.out.2.2.2.2.2.2.2.2.1 HY.out.2.2.2.2.2.2.2.2.2.1 rfl HY.out.2.2.2.2.2.1 HY.out.2.2.2.2.2.2.1
 have HK7:Hid (∀ A7 w',Rep A7 (({σ2.setC s {c2 with k:=none} with looks:=σ2.looks+dl}:St).event {kind:=2,t:=t2.id,op:=c2.op,res:=c2.r}) w'→Stay A5 A7 s→A7.vpairs=A5.vpairs→w'.cell? ⟨A.bt s,0,none⟩=some (zi (t2.id:Int))∧w'.cell? ⟨A.bc s,0,none⟩=some (zi (c2.op.kind:Int))∧w'.cell? ⟨A.bc s,1,none⟩=some (zi (c2.op.key:Int))∧w'.cell? ⟨A.bc s,2,none⟩=some (zi (c2.op.hi:Int))∧w'.cell? ⟨A.bc s,3,none⟩=some (zi (c2.op.value:Int))∧w'.cell? ⟨A.bc s,5,none⟩=some (zi (c2.r.e:Int))∧w'.cell? ⟨A.bc s,6,none⟩=some (zi (c2.r.value:Int))∧w'.cell? ⟨A.bc s,7,none⟩=some (.slice pa np pcap)∧w'.cell? ⟨A.bc s,8,none⟩=some (zi (c2.r.over:Int))∧w'.cell? ⟨A.bc s,9,none⟩=some (zi (c2.r.reason:Int))):=fun A7 w' r st vp=>HK0.out A7 _ _ r (st.bt.trans HY.out.2.2.2.2.2.2.2.2.1) (st.bc.trans HY.out.2.2.2.2.2.2.2.2.2.1) vp HY.out.2.2.2.2.2.1 HY.out.2.2.2.2.2.2.1
 have HRW:Hid (∀ w',Below w5.heap.size w5 w'→Ow.Row w' 0 2 (.slice pa np pcap) (pairCs c2.r.pairs)):=fun w' hb=>HKR.out A5 _ _ (HY.out.1.below hb) rfl HY.out.2.2.2.2.2.2.1
 have HFR:Hid (∀ b,w5.heap.size≤b→A5.L b=none):=HY.out.1.mem.fresh
 go_region_held3 (fun w'=>w'.cell? ⟨A.bt s,0,none⟩=some (zi (t2.id:Int))∧w'.cell? ⟨A.bc s,0,none⟩=some (zi (c2.op.kind:Int))∧w'.cell? ⟨A.bc s,1,none⟩=some (zi (c2.op.key:Int))∧w'.cell? ⟨A.bc s,2,none⟩=some (zi (c2.op.hi:Int))∧w'.cell? ⟨A.bc s,3,none⟩=some (zi (c2.op.value:Int))∧w'.cell? ⟨A.bc s,5,none⟩=some (zi (c2.r.e:Int))∧w'.cell? ⟨A.bc s,6,none⟩=some (zi (c2.r.value:Int))∧w'.cell? ⟨A.bc s,7,none⟩=some (.slice pa np pcap)∧w'.cell? ⟨A.bc s,8,none⟩=some (zi (c2.r.over:Int))∧w'.cell? ⟨A.bc s,9,none⟩=some (zi (c2.r.reason:Int)))
  (first|exact S0|assumption|exact HKB.out _ (by assumption)|exact HK7.out _ _ (by assumption) (by assumption) (by assumption))
  (first|(go_at_call 49;refine (copied_any _ _ _ _ _ _ _ _ c2.r.pairs (HRW.out _ ((Below.refl _ w5).drew)) HNP.out.1 HNP.out.2).mono ?_;rintro e w6 ⟨ca,cc,rfl,ho,hb⟩;have hb5:Below w5.heap.size w5 w6:=((Below.refl _ w5).drew).trans hb;have hPR:PRow A5.L w6 (.slice ca np cc) (pairCs c2.r.pairs):=prow_of_own ho (fun b h _=>HFR.out b h);clear hb ho)|(go_at_call 65;refine (HE.out _ _ _ (HY.out.1.below (by assumption)) (by assumption)).mono ?_;rintro e w7 ⟨rfl,A7,p1,p2,p3,p4,p5⟩))
 obtain⟨_,_,_,_,_,s5,s6,s7,s8,s9⟩:=HK7.out _ _ p1 p3 p5;rw[HY.out.2.2.2.2.2.2.2.2.2.2.2] at p2;have HTD:=zH (tmp_grow (tmp_grow HY.out.2.2.1 (Grow.below (L:=A2.L) hb5)) p2);have H7:=zH (zA p1 (zA ((Grow.below (L:=A2.L) hb5).trans p2) (zA p3 (zA p4 p5))));have HR7:=zH (HKR.out A7 _ _ p1 p5 HY.out.2.2.2.2.2.2.1);have HF7:=zH p1.mem.fresh;clear p1 p2 p3 p4 p5 hb5 S0 hPR;go_wp2_with (first|(go_at_call 49;refine (copied_any _ _ _ _ _ _ _ _ c2.r.pairs HR7.out HNP.out.1 HNP.out.2).mono ?_;rintro e w8 ⟨da,dc,rfl,ho8,hb8⟩;have HO8:=zH ho8;clear ho8;have HB8:=zH hb8;have HTH:=zH (there_of (tmp_grow HTD.out (Grow.below (L:=A7.L) hb8)).2);clear hb8)|(refine wpList_store_mid rfl 127 (.tmp 4) (.tmp 115) rfl w.heap.size 0 #[zi 3,zi (c2.r.e:Int),zi (c2.r.value:Int),.slice da np dc,zi (c2.r.over:Int),zi (c2.r.reason:Int)] rfl rfl HTH.out (by kernel_rfl) (by simp[Value.oneCell']) ?_;generalize hws:World.setCells _ _ _ _=ws));have hbut:=But.setCells w.heap.size [zi 3,zi (c2.r.e:Int),zi (c2.r.value:Int),.slice da np dc,zi (c2.r.over:Int),zi (c2.r.reason:Int)] 0 w8;have fD:=tmp_grow HTD.out (Grow.below (L:=A7.L) HB8.out);have hfin:=heap_setCells6 fD.2 (zi 3) (zi (c2.r.e:Int)) (zi (c2.r.value:Int)) (.slice da np dc) (zi (c2.r.over:Int)) (zi (c2.r.reason:Int));rw[show w8.setCells w.heap.size 0 [zi 3,zi (c2.r.e:Int),zi (c2.r.value:Int),.slice da np dc,zi (c2.r.over:Int),zi (c2.r.reason:Int)]=ws from hws] at hbut hfin
 (try simp only[Exit.inBlock,Exit.then])
 refine bodyPost_ret (results_cell_tmp_row rfl _ _ w.heap.size 127 #[zi 3,zi (c2.r.e:Int),zi (c2.r.value:Int),.slice da np dc,zi (c2.r.over:Int),zi (c2.r.reason:Int)] _ _ rfl hfin Tryz.underlying127 rfl (by kernel_rfl)) rfl ?_;rw[HQ.out];obtain⟨hc2,hdl,hcq,hs,_⟩:=HF.out;obtain⟨q1,q2,q3,_⟩:=HX2.out;obtain⟨_,g5,_,hpr,_,_,_,st5,_,_,e5v,e5L⟩:=HY.out;obtain⟨p1,p2,p3,p4,p5⟩:=H7.out;have r7:=((p1.below HB8.out).dropCall s).but fD.1 hbut;have gg:=(((((HX.out.2.1.trans q2).trans g5).trans p2).trans (Grow.below (L:=A7.L) HB8.out)).but (Nat.le_refl _) hbut)
 have hlen:s<(σ2.setC s {c2 with k:=none}).calls.length:=by have:=lt_of_call hc2;simpa [St.setC] using this
 have hns:((σ2.setC s {c2 with k:=none}).calls.set s none).getD s none=none:=by rw[getD_set _ _ _ _ _ hlen,if_pos rfl]
 refine⟨A7,.slice da np dc,rfl,(prow_of_own (own_but HO8.out hbut fD.2 (by decide)) (fun b h _=>HF7.out b h)).1,Live.of (s:=s) HL0.out HSW.out r7 gg ⟨p3.bf.trans st5.bf,p3.mp.trans st5.mp,p3.mt.trans st5.mt,fun q hq=>(congrFun p3.bt q).trans (st5.bt q hq),fun q hq=>(congrFun p3.bc q).trans (st5.bc q hq),fun q hq=>(p3.bx q hq).trans (st5.bx q hq),fun q hq=>(p3.vpairs q hq).trans (st5.vpairs q hq),fun q hq=>(congrFun p3.vnext q).trans (st5.vnext q hq),fun q hq=>(congrFun p3.vcall q).trans (st5.vcall q hq)⟩ (fun q hq=>?_) (fun c' hcc=>?_) (fun hnn=>(congrFun p3.vcall s).trans e5v),gg,p3.be.trans st5.be⟩
 · show ((σ2.setC s {c2 with k:=none}).calls.set s none).getD q none=_
   rw[getD_set _ _ _ _ _ hlen,if_neg hq,getC_set (lt_of_call hc2),if_neg hq];exact hcq q hq
 · have h0:=hns.symm.trans hcc
   cases h0
end Go.Proofs.YtpkenfnmkpmapaaGreat.Em
