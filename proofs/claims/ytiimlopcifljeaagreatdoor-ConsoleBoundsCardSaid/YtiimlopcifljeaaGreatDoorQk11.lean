import Derived.Laws.ResultCell
import Derived.Laws.Rows
import Derived.Test.YtiimlopcifljeaaGreatDoorQk7
import Derived.Deep.Cut
namespace Go.Proofs.YtiimlopcifljeaaGreatDoor.Em
open Go.ChangeShapes Go.WideShapes Go.ChangeAt Go.RowKit En
set_option linter.unusedVariables false
set_option linter.unusedSimpArgs false
set_option maxRecDepth 100000
set_option maxHeartbeats 1600000
def Book.tmp (A:Book) (b:Nat):Book:={A with L:=lab1 A.L b .tmp}
theorem mem_tmp (A:Book) (σ:St) (b:Nat) (q:Role):memOf (A.tmp b) σ q=memOf A σ q:=by cases q<;>rfl
theorem Rep.newTmp {A:Book} {σ:St} {w:World} (h:Rep A σ w) (o:Obj):Rep (A.tmp w.heap.size) σ (w.alloc o)∧Grow A.L w (A.tmp w.heap.size).L (w.alloc o)∧(A.tmp w.heap.size).L w.heap.size=some .tmp∧(w.alloc o).heap[w.heap.size]? =some o:=by
 have g:Grow A.L w (A.tmp w.heap.size).L (w.alloc o):=(Grow.alloc A.L w o).lab1 (Nat.le_refl _) _;refine⟨⟨⟨fun r=>?_,fun b hb=>?_⟩,h.ev.grow g,h.sl,h.nw,h.nt,h.nv,h.n8,h.nc⟩,g,lab1_same _ _ _,heap_alloc_new w o⟩
 · rw[mem_tmp]
   exact (h.mem.all r).frame (fun b hb _=>Below.heap_alloc w o b hb) (fun b hb=>lab1_other (by omega))
 · have:w.heap.size+1≤b:=by simpa using hb
   show lab1 A.L w.heap.size .tmp b=none;rw[lab1_other (by omega)];exact h.mem.fresh b (by omega)
theorem tmp_grow {L L':Lab} {w w':World} {b:Nat} {o:Obj} (h:L b=some .tmp∧w.heap[b]? =some o) (g:Grow L w L' w'):L' b=some .tmp∧w'.heap[b]? =some o:=⟨(g.lab b (lt_of h.2)).trans h.1,(g.keep b (lt_of h.2) h.1).trans h.2⟩
structure But (b:Nat) (w w':World):Prop where
 os:w'.os=w.os
 tape:w'.tape=w.tape
 output:w'.output=w.output
 size:w'.heap.size=w.heap.size
 block:∀ k,k≠b→w'.heap[k]? =w.heap[k]?
theorem But.setCell (w:World) (a:Addr) (v:Value):But a.block w (w.setCell a v):=⟨rfl,rfl,rfl,by simp[World.setCell],fun k hk=>Below.heap_setCell _ _ _ _ hk⟩
theorem But.trans {b:Nat} {w w1 w2:World} (h:But b w w1) (k:But b w1 w2):But b w w2:=⟨k.os.trans h.os,k.tape.trans h.tape,k.output.trans h.output,k.size.trans h.size,fun j hj=>(k.block j hj).trans (h.block j hj)⟩
theorem But.setCells (b:Nat):∀ (vs:List Value) (o:Nat) (w:World),But b w (w.setCells b o vs)
 |[],_,w=>⟨rfl,rfl,rfl,rfl,fun _ _=>rfl⟩
 |v::vs,o,w=>(But.setCell w ⟨b,o,none⟩ v).trans (But.setCells b vs (o+1) (w.setCell ⟨b,o,none⟩ v))
section
variable {L:Lab} {w w':World} {b:Nat} (hl:L b=some .tmp) (h:But b w w')
include hl h
theorem FRow.but {size:Nat} {v:Value} {xs:List Value} (f:FRow L w size v xs):FRow L w' size v xs:=by
 obtain⟨ad,n,cap,rfl,e2,e3,e4,e5⟩:=f;refine⟨ad,n,cap,rfl,e2,e3,e4,?_⟩
 rcases e5 with h0|⟨g,off,rfl,e7,e8,e9⟩
 · exact .inl h0
 · refine .inr ⟨g,off,rfl,e7,by rw[h.size];exact e8,fun j hj=>?_⟩
   rw[World.cell?_of_block (w:=w) (a:=⟨g,off+j,none⟩) (h.block g (by rintro rfl;rw[hl] at e7;cases e7))];exact e9 j hj
theorem PRow.but {v:Value} {xs:List Value} (f:PRow L w v xs):PRow L w' v xs:=by
 refine⟨f.1.but hl h,fun g off n cap hv=>?_⟩
 rcases f.2 g off n cap hv with h0|⟨cs,hc⟩
 · exact .inl h0
 · by_cases hn:n=0
   · exact .inl hn
   · obtain⟨ad,n',cap',e1,e2,e3,e4,e5⟩:=f.1
     obtain⟨rfl,rfl,rfl⟩:ad=some ⟨g,off,none⟩∧n'=n∧cap'=cap:=by rw[hv] at e1;simp at e1;exact⟨e1.1.symm,e1.2.1.symm,e1.2.2.symm⟩
     obtain⟨g',off',e6,e7,_⟩:=e5.resolve_left hn;obtain⟨rfl,rfl⟩:g=g'∧off=off':=by simpa using e6
     exact .inr ⟨cs,(h.block g (by rintro rfl;rw[hl] at e7;cases e7)).trans hc⟩
theorem Evs.but:∀ {l:List Ev} {xs:List Value},Evs L w l xs→Evs L w' l xs
 |[],_,f=>f
 |_::_,_,⟨vp,ys,h1,h2,h3⟩=>⟨vp,ys,h1,h2.but hl h,Evs.but h3⟩
end
theorem Rep.but {A:Book} {σ:St} {w w':World} {b:Nat} (hR:Rep A σ w) (hl:A.L b=some .tmp) (h:But b w w'):Rep A σ w':=by
 refine⟨⟨fun r=>?_,fun k hk=>hR.mem.fresh k (by rw[←h.size];exact hk)⟩,hR.ev.but hl h,hR.sl,hR.nw,hR.nt,hR.nv,hR.n8,hR.nc⟩
 by_cases hr:r=.tmp
 · subst hr;trivial
 · refine (hR.mem.all r).frame (fun k hk hk'=>h.block k ?_) (fun _ _=>rfl)
   rintro rfl;rw[hl] at hk';exact hr (Option.some.inj hk').symm
theorem Grow.but {L L':Lab} {w w1 w2:World} {b:Nat} (g:Grow L w L' w1) (hb:w.heap.size≤b) (h:But b w1 w2):Grow L w L' w2:=
 ⟨h.os.trans g.os,h.tape.trans g.tape,h.output.trans g.output,by rw[h.size];exact g.size,fun k hk hl=>(h.block k (by omega)).trans (g.block k hk hl),g.lab,fun k hk hl=>(h.block k (by omega)).trans (g.keep k hk hl)⟩
structure Soft (L:Lab) (w:World) (L':Lab) (w':World):Prop where
 size:w.heap.size≤w'.heap.size
 block:∀ b,b<w.heap.size→L b=none→w'.heap[b]? =w.heap[b]?
 lab:∀ b,b<w.heap.size→L b=none→L' b=none
section
variable {p:KP} {L L':Lab} {w w':World}
theorem Fix.soft {b:Nat} {o:Obj} (h:Fix L w b o) (g:Soft L w L' w'):Fix L' w' b o:=⟨g.lab b (lt_of h.2) h.1,(g.block b (lt_of h.2) h.1).trans h.2⟩
theorem Box.soft {b:Nat} {v:Value} (h:Box L w b v) (g:Soft L w L' w'):Box L' w' b v:=let ⟨T,h⟩:=h;⟨T,h.soft g⟩
theorem FRow.soft {size:Nat} {v:Value} {xs:List Value} (h:FRow L w size v xs) (g:Soft L w L' w'):FRow L' w' size v xs:=by
 obtain⟨a,n,cap,h1,h2,h3,h4,h5⟩:=h;refine⟨a,n,cap,h1,h2,h3,h4,?_⟩
 rcases h5 with h5|⟨b,off,e1,e2,e3,e4⟩
 · exact .inl h5
 · refine .inr ⟨b,off,e1,g.lab b e3 e2,Nat.lt_of_lt_of_le e3 g.size,fun j hj=>?_⟩
   rw[World.cell?_of_block (w:=w) (a:=⟨b,off+j,none⟩) (g.block b e3 e2)];exact e4 j hj
theorem SRep.soft {e:Nat} {L L':Lab} {w w':World} {v:Value} (g:Soft L w L' w'):∀ {k:Option S},SRep e L w v k→SRep e L' w' v k
 |none,h=>h
 |some .now,h=>h
 |some (.live s),h=>let ⟨b0,b1,e,k0,k1⟩:=h;⟨b0,b1,e,k0.soft g,k1.soft g⟩
 |some (.head key),h=>let ⟨b0,b1,e,k0,k1⟩:=h;⟨b0,b1,e,k0.soft g,k1.soft g⟩
 |some (.visit key ahead link),h=>let ⟨b0,b1,b2,b3,e,k0,k1,k2,k3⟩:=h;⟨b0,b1,b2,b3,e,k0.soft g,k1.soft g,k2.soft g,k3.soft g⟩
 |some (.maker key ahead link id),h=>let ⟨b0,b1,b2,b3,b4,e,k0,k1,k2,k3,k4⟩:=h;⟨b0,b1,b2,b3,b4,e,k0.soft g,k1.soft g,k2.soft g,k3.soft g,k4.soft g⟩
 |some (.garbage key ahead link b),h=>let ⟨b0,b1,b2,b3,b4,e,k0,k1,k2,k3,k4⟩:=h;⟨b0,b1,b2,b3,b4,e,k0.soft g,k1.soft g,k2.soft g,k3.soft g,k4.soft g⟩
 |some (.on key link),h=>let ⟨b0,b1,b2,e,k0,k1,k2⟩:=h;⟨b0,b1,b2,e,k0.soft g,k1.soft g,k2.soft g⟩
 |some (.unlink key ahead link),h=>let ⟨b0,b1,b2,b3,e,k0,k1,k2,k3⟩:=h;⟨b0,b1,b2,b3,e,k0.soft g,k1.soft g,k2.soft g,k3.soft g⟩
 |some (.cut key ahead link nx),h=>let ⟨b0,b1,b2,b3,b4,e,k0,k1,k2,k3,k4⟩:=h;⟨b0,b1,b2,b3,b4,e,k0.soft g,k1.soft g,k2.soft g,k3.soft g,k4.soft g⟩
theorem SwRep.soft {A A':Book} {σ:St} {w w':World} (h:SwRep A σ w) (e:A'.bef=A.bef) (g:Soft A.L w A'.L w'):SwRep A' σ w':=
 ⟨by rw[bef_be e,bef_sv e];exact h.sw.soft g,h.cu.keep e⟩
theorem ResBox.soft {b:Nat} {r:Res} (h:ResBox p L w b r) (g:Soft L w L' w'):ResBox p L' w' b r:=let ⟨vp,T,h1,h2⟩:=h;⟨vp,T,h1.soft g,h2⟩
theorem StampBox.soft {b n:Nat} (h:StampBox L w b n) (g:Soft L w L' w'):StampBox L' w' b n:=let ⟨T,h1⟩:=h;⟨T,h1.soft g⟩
theorem SeenBox.soft {b n:Nat} (h:SeenBox L w b n) (g:Soft L w L' w'):SeenBox L' w' b n:=let ⟨T,k,q,h1⟩:=h;⟨T,k,q,h1.soft g⟩
theorem HeadBox.soft {b n:Nat} {x:Bool} (h:HeadBox L w b x n) (g:Soft L w L' w'):HeadBox L' w' b x n:=let ⟨v,h1,h2⟩:=h;⟨v,h1.soft g,h2.soft g⟩
theorem ListBox.soft {b:Nat} {l:List Trn} (h:ListBox L w b l) (g:Soft L w L' w'):ListBox L' w' b l:=let ⟨v,h1,h2⟩:=h;⟨v,h1.soft g,h2.soft g⟩
theorem TellBox.soft {b k:Nat} (h:TellBox p L w b k) (g:Soft L w L' w'):TellBox p L' w' b k:=let ⟨v,h1,c0,c1,e,k0,k1⟩:=h;⟨v,h1.soft g,c0,c1,e,k0.soft g,k1.soft g⟩
theorem NextBox.soft {b l1 l2 l3:Nat} (h:NextBox p L w b l1 l2 l3) (g:Soft L w L' w'):NextBox p L' w' b l1 l2 l3:=let ⟨v,h1,c0,c1,c2,c3,c4,c5,e,k0,k1,k2,k3,k4,k5⟩:=h;⟨v,h1.soft g,c0,c1,c2,c3,c4,c5,e,k0.soft g,k1.soft g,k2.soft g,k3.soft g,k4.soft g,k5.soft g⟩
theorem TurnBox.soft {b l1 l2:Nat} (h:TurnBox p L w b l1 l2) (g:Soft L w L' w'):TurnBox p L' w' b l1 l2:=let ⟨v,h1,c0,c1,c2,c3,c4,e,k0,k1,k2,k3,k4⟩:=h;⟨v,h1.soft g,c0,c1,c2,c3,c4,e,k0.soft g,k1.soft g,k2.soft g,k3.soft g,k4.soft g⟩
theorem ThnRep.soft {v:Value} {key:Nat} {t:Thn} (h:ThnRep p L w v key t) (g:Soft L w L' w'):ThnRep p L' w' v key t:=
 match t,h with
 |.get,hh=>let ⟨b0,b1,b2,b3,e,k0,k1,k2,k3⟩:=hh;⟨b0,b1,b2,b3,e,k0.soft g,k1.soft g,k2.soft g,k3.soft g⟩
 |.scan k,hh=>let ⟨b0,b1,b2,b3,b4,e,k0,k1,k2,k3,k4⟩:=hh;⟨b0,b1,b2,b3,b4,e,k0.soft g,k1.soft g,k2.soft g,k3.soft g,k4.soft g⟩
 |.change,hh=>let ⟨b0,b1,b2,b3,e,k0,k1,k2,k3⟩:=hh;⟨b0,b1,b2,b3,e,k0.soft g,k1.soft g,k2.soft g,k3.soft g⟩
 |.judge i l,hh=>let ⟨b0,b1,b2,b3,b4,e,k0,k1,k2,k3,k4⟩:=hh;⟨b0,b1,b2,b3,b4,e,k0.soft g,k1.soft g,k2.soft g,k3.soft g,k4.soft g⟩
theorem HuntAt.soft {b:Nat} {h:Hunt} (hh:HuntAt p L w b h) (g:Soft L w L' w'):HuntAt p L' w' b h:=let ⟨v,T,h1,h2⟩:=hh;⟨v,T,h1.soft g,h2.soft g⟩
theorem HuntBox.soft {b:Nat} {h:Hunt} (hh:HuntBox p L w b h) (g:Soft L w L' w'):HuntBox p L' w' b h:=let ⟨v,h1,h2⟩:=hh;⟨v,h1.soft g,h2.soft g⟩
theorem KRep.soft {v:Value} {k:K} (h:KRep p L w v k) (g:Soft L w L' w'):KRep p L' w' v k:=
 match k,h with
 |.start _,⟨bh,e,h1⟩=>⟨bh,e,h1.soft g⟩
 |.fin r,hh=>let ⟨b0,b1,b2,e,k0,k1,k2⟩:=hh;⟨b0,b1,b2,e,k0.soft g,k1.soft g,k2.soft g⟩
 |.visit h link,hh=>let ⟨b0,b1,e,k0,k1⟩:=hh;⟨b0,b1,e,k0.soft g,k1.soft g⟩
 |.older h link,hh=>let ⟨b0,b1,e,k0,k1⟩:=hh;⟨b0,b1,e,k0.soft g,k1.soft g⟩
 |.maker h link id,hh=>let ⟨b0,b1,b2,e,k0,k1,k2⟩:=hh;⟨b0,b1,b2,e,k0.soft g,k1.soft g,k2.soft g⟩
 |.ended h link mb,hh=>let ⟨b0,b1,b2,e,k0,k1,k2⟩:=hh;⟨b0,b1,b2,e,k0.soft g,k1.soft g,k2.soft g⟩
 |.ender h link mb id,hh=>let ⟨b0,b1,b2,b3,e,k0,k1,k2,k3⟩:=hh;⟨b0,b1,b2,b3,e,k0.soft g,k1.soft g,k2.soft g,k3.soft g⟩
 |.seen h link mb,hh=>let ⟨b0,b1,b2,e,k0,k1,k2⟩:=hh;⟨b0,b1,b2,e,k0.soft g,k1.soft g,k2.soft g⟩
 |.again end_,hh=>let ⟨b0,b1,b2,b3,e,k0,k1,k2,k3⟩:=hh;⟨b0,b1,b2,b3,e,k0.soft g,k1.soft g,k2.soft g,k3.soft g⟩
 |.own link,hh=>let ⟨b0,b1,b2,b3,e,k0,k1,k2,k3⟩:=hh;⟨b0,b1,b2,b3,e,k0.soft g,k1.soft g,k2.soft g,k3.soft g⟩
 |.ownTxn link w1 id,hh=>let ⟨b0,b1,b2,b3,b4,b5,e,k0,k1,k2,k3,k4,k5⟩:=hh;⟨b0,b1,b2,b3,b4,b5,e,k0.soft g,k1.soft g,k2.soft g,k3.soft g,k4.soft g,k5.soft g⟩
 |.claim link w1,hh=>let ⟨b0,b1,b2,b3,b4,e,k0,k1,k2,k3,k4⟩:=hh;⟨b0,b1,b2,b3,b4,e,k0.soft g,k1.soft g,k2.soft g,k3.soft g,k4.soft g⟩
 |.fresh link,hh=>let ⟨b0,b1,b2,b3,e,k0,k1,k2,k3⟩:=hh;⟨b0,b1,b2,b3,e,k0.soft g,k1.soft g,k2.soft g,k3.soft g⟩
 |.next link head at_,hh=>let ⟨b0,b1,b2,b3,b4,b5,e,k0,k1,k2,k3,k4,k5⟩:=hh;⟨b0,b1,b2,b3,b4,b5,e,k0.soft g,k1.soft g,k2.soft g,k3.soft g,k4.soft g,k5.soft g⟩
 |.free link head at_,hh=>let ⟨b0,b1,b2,b3,b4,b5,e,k0,k1,k2,k3,k4,k5⟩:=hh;⟨b0,b1,b2,b3,b4,b5,e,k0.soft g,k1.soft g,k2.soft g,k3.soft g,k4.soft g,k5.soft g⟩
 |.freeTxn link head at_ id,hh=>let ⟨b0,b1,b2,b3,b4,b5,e,k0,k1,k2,k3,k4,k5⟩:=hh;⟨b0,b1,b2,b3,b4,b5,e,k0.soft g,k1.soft g,k2.soft g,k3.soft g,k4.soft g,k5.soft g⟩
 |.slotB x link head,hh=>let ⟨b0,b1,b2,b3,b4,b5,e,k0,k1,k2,k3,k4,k5⟩:=hh;⟨b0,b1,b2,b3,b4,b5,e,k0.soft g,k1.soft g,k2.soft g,k3.soft g,k4.soft g,k5.soft g⟩
 |.slotE x link head,hh=>let ⟨b0,b1,b2,b3,b4,b5,e,k0,k1,k2,k3,k4,k5⟩:=hh;⟨b0,b1,b2,b3,b4,b5,e,k0.soft g,k1.soft g,k2.soft g,k3.soft g,k4.soft g,k5.soft g⟩
 |.push link head,hh=>let ⟨b0,b1,b2,b3,b4,e,k0,k1,k2,k3,k4⟩:=hh;⟨b0,b1,b2,b3,b4,e,k0.soft g,k1.soft g,k2.soft g,k3.soft g,k4.soft g⟩
 |.pushC link head,hh=>let ⟨b0,b1,b2,b3,b4,e,k0,k1,k2,k3,k4⟩:=hh;⟨b0,b1,b2,b3,b4,e,k0.soft g,k1.soft g,k2.soft g,k3.soft g,k4.soft g⟩
 |.over link,hh=>let ⟨b0,b1,b2,b3,b4,e,k0,k1,k2,k3,k4⟩:=hh;⟨b0,b1,b2,b3,b4,e,k0.soft g,k1.soft g,k2.soft g,k3.soft g,k4.soft g⟩
 |.overN link head,hh=>let ⟨b0,b1,b2,b3,b4,b5,e,k0,k1,k2,k3,k4,k5⟩:=hh;⟨b0,b1,b2,b3,b4,b5,e,k0.soft g,k1.soft g,k2.soft g,k3.soft g,k4.soft g,k5.soft g⟩
 |.overC link head,hh=>let ⟨b0,b1,b2,b3,b4,b5,e,k0,k1,k2,k3,k4,k5⟩:=hh;⟨b0,b1,b2,b3,b4,b5,e,k0.soft g,k1.soft g,k2.soft g,k3.soft g,k4.soft g,k5.soft g⟩
 |.draw,hh=>let ⟨b0,b1,b2,e,k0,k1,k2⟩:=hh;⟨b0,b1,b2,e,k0.soft g,k1.soft g,k2.soft g⟩
 |.drawH w1 now,hh=>let ⟨b0,b1,b2,e,k0,k1,k2⟩:=hh;⟨b0,b1,b2,e,k0.soft g,k1.soft g,k2.soft g⟩
 |.turn w1 now,hh=>let ⟨b0,b1,b2,b3,b4,e,k0,k1,k2,k3,k4⟩:=hh;⟨b0,b1,b2,b3,b4,e,k0.soft g,k1.soft g,k2.soft g,k3.soft g,k4.soft g⟩
 |.helpJ,hh=>let ⟨b0,b1,b2,e,k0,k1,k2⟩:=hh;⟨b0,b1,b2,e,k0.soft g,k1.soft g,k2.soft g⟩
 |.wait i,hh=>let ⟨b0,b1,b2,b3,b4,e,k0,k1,k2,k3,k4⟩:=hh;⟨b0,b1,b2,b3,b4,e,k0.soft g,k1.soft g,k2.soft g,k3.soft g,k4.soft g⟩
 |.turns [] r,hh=>let ⟨b0,b1,b2,b3,e,k0,k1,k2,k3⟩:=hh;⟨b0,b1,b2,b3,e,k0.soft g,k1.soft g,k2.soft g,k3.soft g⟩
 |.turns (x::l) r,hh=>let ⟨b0,b1,b2,b3,b4,e,k0,k1,k2,k3,k4⟩:=hh;⟨b0,b1,b2,b3,b4,e,k0.soft g,k1.soft g,k2.soft g,k3.soft g,k4.soft g⟩
 |.commit,hh=>let ⟨b0,b1,b2,e,k0,k1,k2⟩:=hh;⟨b0,b1,b2,e,k0.soft g,k1.soft g,k2.soft g⟩
 |.abort e reason,hh=>let ⟨b0,b1,b2,b3,b4,e,k0,k1,k2,k3,k4⟩:=hh;⟨b0,b1,b2,b3,b4,e,k0.soft g,k1.soft g,k2.soft g,k3.soft g,k4.soft g⟩
end
theorem But.soft {L:Lab} {w w':World} {b:Nat} (hl:L b=some .tmp) (h:But b w w'):Soft L w L w':=⟨by rw[h.size];exact Nat.le_refl _,fun k hk e=>h.block k (by rintro rfl;rw[hl] at e;cases e),fun _ _ e=>e⟩
theorem heap_setCell_same {w:World} {b:Nat} {cs:Array Value} {T:TypeId} (h:w.heap[b]? =some (.cells cs T)) (i:Nat) (v:Value):(w.setCell ⟨b,i,none⟩ v).heap[b]? =some (.cells (cs.setIfInBounds i v) T):=by
 simp only[World.setCell,Array.getElem?_modify,h];simp
theorem heap_setCells6 {w:World} {b:Nat} {a0 a1 a2 a3 a4 a5:Value} {T:TypeId} (h:w.heap[b]? =some (.cells #[a0,a1,a2,a3,a4,a5] T)) (v0 v1 v2 v3 v4 v5:Value):(w.setCells b 0 [v0,v1,v2,v3,v4,v5]).heap[b]? =some (.cells #[v0,v1,v2,v3,v4,v5] T):=by
 have h1:=heap_setCell_same h 0 v0;have h2:=heap_setCell_same h1 1 v1;have h3:=heap_setCell_same h2 2 v2;have h4:=heap_setCell_same h3 3 v3;have h5:=heap_setCell_same h4 4 v4;have h6:=heap_setCell_same h5 5 v5;exact h6
theorem heap_setCells5 {w:World} {b:Nat} {a0 a1 a2 a3 a4:Value} {T:TypeId} (h:w.heap[b]? =some (.cells #[a0,a1,a2,a3,a4] T)) (v0 v1 v2 v3 v4:Value):(w.setCells b 0 [v0,v1,v2,v3,v4]).heap[b]? =some (.cells #[v0,v1,v2,v3,v4] T):=by
 have h1:=heap_setCell_same h 0 v0;have h2:=heap_setCell_same h1 1 v1;have h3:=heap_setCell_same h2 2 v2;have h4:=heap_setCell_same h3 3 v3;have h5:=heap_setCell_same h4 4 v4;exact h5
theorem there_of {w:World} {b:Nat} {cs:Array Value} {T:TypeId} (h:w.heap[b]? =some (.cells cs T)):w.there b 0 cs.size:=by
 intro j hj;rw[Nat.zero_add];refine⟨?_,by simp[World.frozen?,h]⟩;rw[cell_of_row w b j _ _ _ h];simp[hj]
theorem results_cell_tmp_row {P:Program} {fn:Func} {p u:Tmp} {ty:TypeId} (h:fn.results=#[.cell p ty,.tmp u]) (tmps:Array Value) (w:World) (g:Nat) (t:TypeId) (cs:Array Value) (fr:Nat×Nat) (d:TypeDesc)
 (hp:tmps.getD p undef=.pointer (some ⟨g,0,none⟩)) (hg:w.heap[g]? =some (.cells cs t fr))
 (hu:P.underlying ty=some d) (hd:(match d with|.struct _|.array _ _=>true|_=>false)=true) (hi:(P.info? ty).map (·.size)=some cs.size):
 (results fn tmps).run P w=.ok (.tuple #[.agg cs,tmps.getD u undef]) w:=by
 rw[results_cell_tmp h,hp];simp[asAddr,run_loadVar_row w g t ty cs fr d hg hu hd hi,Result.andThen]
theorem copied_nil (w:World) (re rv ro rr:Int) (a:Option Addr) (cap:Nat):
 Calls Tryz.prog 120 #[.agg #[zi re,zi rv,.slice a 0 cap,zi ro,zi rr]] w fun e w'=>e=.returned (.agg #[zi re,zi rv,.slice none 0 0,zi ro,zi rr])∧Below w.heap.size w w':=by
 have hb:Below w.heap.size w (((w.alloc (.cells #[zi re,zi rv,.slice none 0 0,zi ro,zi rr] 168))).alloc (.cells #[zi re,zi rv,.slice none 0 0,zi ro,zi rr] 168)):=(((Below.refl _ _).alloc (Nat.le_refl _) _)).alloc (by simp) _;have HB:=zH hb;clear hb
 cases a with
 |none=>
  go_enter Tryz.func120,Tryz.ntmps120;go_wp2
  (try simp only[Exit.inBlock,Exit.then])
  refine bodyPost_ret (results_cell_row rfl _ _ (w.heap.size+1) 168 #[zi re,zi rv,.slice none 0 0,zi ro,zi rr] _ _ rfl (heap_alloc2_new w _ _) Tryz.underlying168 rfl (by kernel_rfl)) rfl ?_;exact⟨rfl,HB.out⟩
 |some x=>
  go_enter Tryz.func120,Tryz.ntmps120;go_wp2
  (try simp only[Exit.inBlock,Exit.then])
  refine bodyPost_ret (results_cell_row rfl _ _ (w.heap.size+1) 168 #[zi re,zi rv,.slice none 0 0,zi ro,zi rr] _ _ rfl (heap_alloc2_new w _ _) Tryz.underlying168 rfl (by kernel_rfl)) rfl ?_;exact⟨rfl,HB.out⟩
end Go.Proofs.YtiimlopcifljeaaGreatDoor.Em
namespace Go.Proofs.YtiimlopcifljeaaGreatDoor.Em
open En
set_option linter.unusedVariables false
set_option linter.unusedSimpArgs false
set_option maxRecDepth 100000
set_option maxHeartbeats 1600000
def SwS (σ τ:St):Prop:=τ.sw=σ.sw∧τ.cut=σ.cut
theorem SwS.trans {σ τ υ:St} (h:SwS σ τ) (k:SwS τ υ):SwS σ υ:=⟨k.1.trans h.1,k.2.trans h.2⟩
theorem sw_cas (σ:St) (i o v:Nat):SwS σ (σ.cas i o v):=by unfold St.cas;split<;>exact⟨rfl,rfl⟩
theorem sw_help (σ:St) (w:Nat):SwS σ (σ.help w):=sw_cas _ _ _ _
theorem sw_bind (σ:St) (s tq:Nat):SwS σ (σ.bind s tq):=by unfold St.bind;split<;>exact⟨rfl,rfl⟩
theorem sw_list (σ:St):SwS σ σ.list:=by unfold St.list;split<;>exact⟨rfl,rfl⟩
theorem sw_take (σ:St):SwS σ σ.take.1:=by unfold St.take;simp only;split<;>exact sw_list σ
theorem sw_give (σ:St) (l:Nat):SwS σ (σ.give l):=by
 unfold St.give
 split
 · simp only
   split<;>exact⟨rfl,rfl⟩
 · exact⟨rfl,rfl⟩
theorem sw_scan (s n:Nat):∀ (σ:St) (key:Nat),SwS σ (scanN s n σ key).1:=by
 induction n with
 |zero=>intro σ key;exact⟨rfl,rfl⟩
 |succ n ih=>
  intro σ key;unfold scanN
  split
  · exact⟨rfl,rfl⟩
  · split
    · rename_i x _
      refine SwS.trans ?_ (ih _ (key+1))
      split<;>exact⟨rfl,rfl⟩
    · exact⟨rfl,rfl⟩
theorem sw_slot (σ:St) (s:Nat) (x:Bool) (link head:Nat):SwS σ (σ.slot s x link head).1:=by
 unfold St.slot
 by_cases h:link=0
 · rw[if_pos h]
   have:=sw_take σ
   cases e:σ.take with
   |mk τ o=>
    rw[e] at this
    cases o<;>exact this
 · rw[if_neg h];exact⟨rfl,rfl⟩
theorem sw_thn (σ:St) (s:Nat) (h:Hunt) (link:Nat):SwS σ (σ.thn s h link).1:=by
 unfold St.thn
 split
 · simp only;split<;>exact⟨rfl,rfl⟩
 · simp only
   unfold St.scan;refine SwS.trans ?_ (sw_scan _ _ _ _)
   split<;>exact⟨rfl,rfl⟩
 · simp only
   split
   · exact⟨rfl,rfl⟩
   split
   · exact⟨rfl,rfl⟩
   split<;>exact⟨rfl,rfl⟩
 · split<;>exact⟨rfl,rfl⟩
theorem sw_visit (σ:St) (s:Nat) (h:Hunt) (link:Nat):SwS σ (σ.visit s h link).1:=by unfold St.visit;split;exact sw_thn _ _ _ _;exact⟨rfl,rfl⟩
theorem sw_seen (σ:St) (s:Nat) (h:Hunt) (link mb:Nat):SwS σ (σ.seen s h link mb).1:=by unfold St.seen;split;exact sw_thn _ _ _ _;exact⟨rfl,rfl⟩
theorem sw_freeK (σ:St) (s link head at_:Nat):SwS σ (σ.freeK s link head at_).1:=by unfold St.freeK;split;exact sw_slot _ _ _ _ _;exact⟨rfl,rfl⟩
theorem sw_lost (σ:St) (link:Nat):SwS σ (σ.lost link).1:=by unfold St.lost;split;exact sw_give _ _;exact⟨rfl,rfl⟩
theorem sw_tellEnd (σ:St) (s:Nat) (e:Ev):SwS σ (σ.tellEnd s e):=by unfold St.tellEnd;split<;>exact⟨rfl,rfl⟩
theorem run_sw (σ:St) (s:Nat) (k:K):SwS σ (σ.run s k).1:=by
 have r0:SwS σ σ:=⟨rfl,rfl⟩
 cases k
 case turns l r=>
  cases l with
  |nil=>exact r0
  |cons x l=>simp only[St.run];split;exact r0;exact sw_cas _ _ _ _
 case start h=>exact sw_visit σ.tick s h _
 case older h link=>exact sw_visit σ.tick s h _
 case ended h link mb=>
  simp only[St.run]
  split
  · exact r0
  split
  · exact sw_seen σ.tick s h link mb
  · exact r0
 case ender h link mb id=>
  simp only[St.run]
  split
  · exact sw_seen σ.tick s h link mb
  split
  · exact sw_bind σ.tick s id
  · exact r0
 case seen h link mb=>
  simp only[St.run]
  split
  · exact r0
  · split
    · exact (sw_bind σ.tick s mb).trans (sw_thn _ _ _ _)
    · exact sw_thn σ.tick _ _ _
 case claim link w=>
  simp only[St.run]
  split
  · exact sw_cas _ _ _ _
  split
  · exact sw_cas σ _ _ _
  · refine SwS.trans (sw_cas σ (wslot link 1) w (mine (σ.t s))) (SwS.trans ?_ (sw_slot _ _ _ _ _))
    exact⟨rfl,rfl⟩
 case fresh link=>exact sw_freeK σ.tick s _ _ _
 case next link head at_=>exact sw_freeK σ.tick s _ _ _
 case free link head at_=>
  simp only[St.run]
  split
  · exact r0
  split
  · exact sw_lost σ.tick _
  · exact r0
 case freeTxn link head at_ id=>
  simp only[St.run]
  split
  · exact r0
  · exact sw_lost σ.tick _
 case pushC link head=>
  simp only[St.run]
  split
  · exact sw_cas _ _ _ _
  · exact sw_cas _ _ _ _
 case overC link head=>
  simp only[St.run]
  split
  · exact sw_cas _ _ _ _
  · exact sw_cas _ _ _ _
 case turn w now=>
  simp only[St.run]
  split
  · exact sw_cas _ _ _ _
  · exact sw_cas σ _ _ _
 case drawH w now=>exact sw_help _ _
 case helpJ=>exact sw_help _ _
 case commit=>exact sw_tellEnd (σ.put _ _) s _
 case abort e r=>exact sw_tellEnd (σ.put _ _) s _
 case again e=>
  simp only[St.run]
  split<;>exact⟨rfl,rfl⟩
 all_goals (simp only[St.run];(repeat' split)<;>exact⟨rfl,rfl⟩)
theorem first_sw (σ:St) (s:Nat):SwS σ (σ.first s).1:=by
 have r0:SwS σ σ:=⟨rfl,rfl⟩
 unfold St.first;simp only
 split
 · split<;>exact r0
 · exact sw_scan _ _ _ _
 · exact r0
 · exact r0
 · split
   · split
     · exact r0
     split
     · exact r0
     split
     · exact sw_slot _ _ _ _ _
     · exact r0
   · exact r0
end Go.Proofs.YtiimlopcifljeaaGreatDoor.Em
namespace Go.Proofs.YtiimlopcifljeaaGreatDoor.Em
open Go.ChangeShapes Go.WideShapes Go.ChangeAt Go.RowKit En
set_option linter.unusedVariables false
set_option linter.unusedSimpArgs false
set_option maxRecDepth 100000
set_option maxHeartbeats 1600000
theorem sessionOk (s:Nat) (hs:s<8) (w:World):Calls Tryz.prog 64 #[zi (s:Int)] w fun e w'=>e=.returned (.bool true)∧w=w':=by
 have h1:(0:Int)≤(s:Int):=by omega
 have h2:(s:Int)<8:=by omega
 have h3:decide ((0:Int)≤(s:Int))=true:=by simp
 have h4:decide ((s:Int)<8)=true:=by simp;omega
 have h5:(s<8)=True:=by simpa using hs
 go_enter Tryz.func64,Tryz.ntmps64;go_wp2;go_ret;exact⟨rfl,rfl⟩
structure Live (A:Book) (σ:St) (w:World):Prop where
 rep:Rep A σ w
 mp:A.mp=0
 mt:∀ s,A.mt s=0
 call:∀ s,s<8→∀ c,σ.calls.getD s none=some c→A.vcall s=ptr (A.bc s)∧∃ k,c.k=some k∧KRep (kp A σ s) A.L w (A.vnext s) k
 idle:∀ s,s<8→σ.calls.getD s none=none→A.vcall s=.pointer none
 sx:SwRep A σ w
structure StayQ (A A':Book) (s:Nat):Prop where
 bf:A'.bef=A.bef
 mp:A'.mp=A.mp
 mt:A'.mt=A.mt
 bt:∀ q,q≠s→A'.bt q=A.bt q
 bc:∀ q,q≠s→A'.bc q=A.bc q
 bx:∀ q,q≠s→A'.bx q=A.bx q
 vpairs:∀ q,q≠s→A'.vpairs q=A.vpairs q
 vnext:∀ q,q≠s→A'.vnext q=A.vnext q
 vcall:∀ q,q≠s→A'.vcall q=A.vcall q
theorem StayQ.be {A A':Book} {s:Nat} (h:StayQ A A' s):A'.be=A.be:=bef_be h.bf
theorem Live.of {A A':Book} {σ σ':St} {w w':World} {s:Nat} (hL:Live A σ w) (hsw:σ'.sw=σ.sw∧σ'.cut=σ.cut) (r:Rep A' σ' w') (g:Grow A.L w A'.L w') (st:StayQ A A' s) (hq:∀ q,q≠s→σ'.calls.getD q none=σ.calls.getD q none)
 (h1:∀ c,σ'.calls.getD s none=some c→A'.vcall s=ptr (A'.bc s)∧∃ k,c.k=some k∧KRep (kp A' σ' s) A'.L w' (A'.vnext s) k) (h2:σ'.calls.getD s none=none→A'.vcall s=.pointer none):Live A' σ' w':=by
 refine⟨r,st.mp.trans hL.mp,fun q=>by rw[st.mt];exact hL.mt q,fun q hq8 c hc=>?_,fun q hq8 hc=>?_,hL.sx.keep st.bf hsw g⟩
 · by_cases h:q=s
   · subst h;exact h1 c hc
   · have hc0:=(hq q h).symm.trans hc
     obtain⟨e1,k,e2,e3⟩:=hL.call q hq8 c hc0;have ek:kp A' σ' q=kp A σ q:=by
      unfold kp;rw[st.be,st.bt q h,st.bc q h,st.bx q h,st.vpairs q h,call_get hc,call_get hc0]
     refine⟨by rw[st.vcall q h,st.bc q h];exact e1,k,e2,?_⟩;rw[ek,st.vnext q h];exact e3.grow g
 · by_cases h:q=s
   · subst h;exact h2 hc
   · rw[st.vcall q h]
     exact hL.idle q hq8 ((hq q h).symm.trans hc)
theorem KRep.enter {p:KP} {L:Lab} {w:World} {v:Value} {k:K} (h:KRep p L w v k):∃ f b c,v=.func (.func f) b c∧∀ args w,(callFunc f args).run Tryz.prog w=.ok (.enter f args) w:=by
 cases k<;>first
  |(obtain⟨b0,e,_⟩:=h;exact⟨_,_,_,e,fun args w=>by kernel_rfl⟩)
  |(obtain⟨b0,b1,e,_⟩:=h;exact⟨_,_,_,e,fun args w=>by kernel_rfl⟩)
  |(obtain⟨b0,b1,b2,e,_⟩:=h;exact⟨_,_,_,e,fun args w=>by kernel_rfl⟩)
  |(obtain⟨b0,b1,b2,b3,e,_⟩:=h;exact⟨_,_,_,e,fun args w=>by kernel_rfl⟩)
  |(obtain⟨b0,b1,b2,b3,b4,e,_⟩:=h;exact⟨_,_,_,e,fun args w=>by kernel_rfl⟩)
  |(obtain⟨b0,b1,b2,b3,b4,b5,e,_⟩:=h;exact⟨_,_,_,e,fun args w=>by kernel_rfl⟩)
  | (rename_i l r; cases l
     · obtain⟨b0,b1,b2,b3,e,_⟩:=h;exact⟨_,_,_,e,fun args w=>by kernel_rfl⟩
     · obtain⟨b0,b1,b2,b3,b4,e,_⟩:=h;exact⟨_,_,_,e,fun args w=>by kernel_rfl⟩)
def Stepped (A:Book) (w:World) (σ':St) (kind:Int) (r:Res):Ending→World→Prop:=fun e w'=>∃ A' vp,e=.returned (.tuple #[.agg #[zi kind,zi (r.e:Int),zi (r.value:Int),vp,zi (r.over:Int),zi (r.reason:Int)],zi 0])∧FRow A'.L w' 2 vp (pairCs r.pairs)∧Live A' σ' w'∧Grow A.L w A'.L w'∧A'.be=A.be
def RunsTo (σ1:St) (s:Nat) (k:K):Prop:=∀ A w1 f b c,Rep A σ1 w1→A.mp=0→A.mt s=0→KRep (kp A σ1 s) A.L w1 (.func (.func f) b c) k→Calls Tryz.prog f (b++c) w1 (Ran A w1 s (σ1.run s k))
theorem step_go {A:Book} {σ:St} {w:World} (hL:Live A σ w) (s:Nat) (hs:s<8) (t:Txn) (ht:σ.txns.getD s none=some t) (c:Cal) (hc:σ.calls.getD s none=some c) (k:K) (hk:c.k=some k) (hcnt:σ.count<3000000000000000000) (σ2:St) (ok:Option K) (hrun:(σ.setC s {c with waits:=false}).run s k=(σ2,ok)) (HS:RunsTo (σ.setC s {c with waits:=false}) s k) (c2:Cal) (hc2:σ2.calls.getD s none=some c2) (dl:Nat) (hdl:σ2.count=σ.count+dl) (hd1:dl<1000000) (hlk:σ2.looks<1000000000000000000) (hcq:∀ q,q≠s→σ2.calls.getD q none=σ.calls.getD q none) (k':K) (hok:ok=some k') (hov:c2.over=false):
 Calls Tryz.prog 92 #[.pointer (some ⟨A.be,0,none⟩),zi (s:Int)] w (Stepped A w ({σ2.setC s {c2 with k:=ok} with looks:=σ2.looks+dl}) (if c2.waits then 2 else 1) {}):=by
 have HSW:Hid (σ2.sw=σ.sw∧σ2.cut=σ.cut):=zH (by have h:=run_sw (σ.setC s {c with waits:=false}) s k;rw[hrun] at h;exact h);obtain⟨Q,hQ⟩:∃ Q,Q=Stepped A w ({σ2.setC s {c2 with k:=ok} with looks:=σ2.looks+dl}) (if c2.waits then 2 else 1) {}:=⟨_,rfl⟩
 rw[←hQ];have HQ:=zH hQ;clear hQ;obtain⟨r0,g0,fl,fh⟩:=hL.rep.newTmp (.cells #[zi 0,zi 0,zi 0,.slice none 0 0,zi 0,zi 0] 193);obtain⟨hvc,k0,hk0,hkr⟩:=hL.call s hs c hc;obtain rfl:k=k0:=by rw[hk] at hk0;exact Option.some.inj hk0
 obtain⟨fv,fb,fc,hvn,hent⟩:=hkr.enter;have hsok:=zH (sessionOk s hs);have b1:(s:Int)<8:=by omega
 have b0:(0:Int)≤(s:Int):=by omega
 have v0:(w.alloc (.cells #[zi 0,zi 0,zi 0,.slice none 0 0,zi 0,zi 0] 193)).cell? ⟨A.be,13+s,none⟩=some (.pointer (some ⟨A.bc s,0,none⟩)):=by rw[←show A.vcall s=.pointer (some ⟨A.bc s,0,none⟩) from hvc];exact r0.eng (13+s) (engCs_call (A.tmp w.heap.size) σ hs)
 have v1:(w.alloc (.cells #[zi 0,zi 0,zi 0,.slice none 0 0,zi 0,zi 0] 193)).cell? ⟨A.be,5+s,none⟩=some (.pointer (some ⟨A.bt s,0,none⟩)):=by
  have h:=r0.eng (5+s) (engCs_txn (A.tmp w.heap.size) σ hs);have e:(A.tmp w.heap.size).tp σ s=.pointer (some ⟨A.bt s,0,none⟩):=by unfold Book.tp;rw[ht];rfl
  rw[e] at h;exact h
 obtain⟨σ1,hσ1⟩:∃ σ1,σ1=σ.setC s {c with waits:=false}:=⟨_,rfl⟩
 rw[←hσ1] at hrun HS;have hc1:σ1.calls.getD s none=some {c with waits:=false}:=by rw[hσ1,getC_set (lt_of_call hc),if_pos rfl]
 have hkp:kp A σ1 s=kp A σ s:=by unfold kp;rw[call_get hc1,call_get hc]
 have H5:Hid (∀ n w5,(w.alloc (.cells #[zi 0,zi 0,zi 0,.slice none 0 0,zi 0,zi 0] 193)).drewN n=w5→w5.cell? ⟨A.bc s,10,none⟩=some (.bool c.waits)∧w5.frozen? ⟨A.bc s,10,none⟩=false∧∀ w6,w5.setCell ⟨A.bc s,10,none⟩ (.bool false)=w6→w6.cell? ⟨A.be,2,none⟩=some (.pointer (some ⟨A.ba,0,none⟩))∧w6.cell? ⟨A.bc s,4,none⟩=some (.func (.func fv) fb fc)∧Calls Tryz.prog 112 #[.pointer (some ⟨A.ba,0,none⟩)] w6 (fun e w'=>e=.returned (zi (σ.count:Int))∧w6=w')∧Calls Tryz.prog fv (fb++fc) w6 (Ran (A.tmp w.heap.size) w6 s (σ2,ok))∧Grow A.L w (A.tmp w.heap.size).L w6∧((A.tmp w.heap.size).L w.heap.size=some .tmp∧w6.heap[w.heap.size]? =some (.cells #[zi 0,zi 0,zi 0,.slice none 0 0,zi 0,zi 0] 193))):=by
  rintro n w5 rfl;have r5:=r0.drewN n;refine⟨r5.call hc 10 rfl,r5.callF hc 10,?_⟩;rintro w6 rfl;obtain⟨r6,g6⟩:=r5.setCall hc {c with waits:=false} 10 (.bool false) rfl rfl;have g56:=(Grow.drewN (A.tmp w.heap.size).L (w.alloc (.cells #[zi 0,zi 0,zi 0,.slice none 0 0,zi 0,zi 0] 193)) n).trans g6;have gg:=g0.trans g56;rw[←hσ1] at r6;have h4:_=some (A.vnext s):=r6.call hc1 4 rfl;rw[hvn] at h4;have h4':(((w.alloc (.cells #[zi 0,zi 0,zi 0,.slice none 0 0,zi 0,zi 0] 193)).drewN n).setCell ⟨A.bc s,10,none⟩ (.bool false)).cell? ⟨A.bc s,4,none⟩=some (.func (.func fv) fb fc):=h4;have hk6:=(hkr.grow gg)
  rw[hvn,←hkp] at hk6;have hS:=HS (A.tmp w.heap.size) _ fv fb fc r6 hL.mp (hL.mt s) hk6;rw[hrun] at hS;have hcn:=count_any r6 (by rw[hσ1];exact Nat.lt_trans hcnt (by decide));have hcc:σ1.count=σ.count:=by rw[hσ1];rfl
  rw[hcc] at hcn;exact⟨r6.eng 2 rfl,h4',hcn,hS,gg,tmp_grow ⟨fl,fh⟩ g56⟩
 have HL0:=zH hL;have HF:=zH (zA hc2 (zA hdl (zA hcq (zA hs hlk))));have n1:IntKind.i64.wrap (((σ.count+dl:Nat):Int) - (σ.count:Int))=(dl:Int):=by rw[IntKind.wrap_i64];omega
 have n2:IntKind.i64.wrap ((σ2.looks:Int)+(dl:Int))=((σ2.looks+dl:Nat):Int):=by rw[IntKind.wrap_i64];omega
 have H7 : Hid (∀ A2 w2 v A3, A3 = { A2 with vnext := upF A2.vnext s v } → Rep A2 σ2 w2 → Stay (A.tmp w.heap.size) A2 s → w2.cell? ⟨A.bc s, 4, none⟩ = some (A2.vnext s) ∧ w2.frozen? ⟨A.bc s, 4, none⟩ = false ∧ ∀ w3, w2.setCell ⟨A.bc s, 4, none⟩ v = w3 → w3.cell? ⟨A.be, 23, none⟩ = some (zi (σ2.looks : Int)) ∧ w3.frozen? ⟨A.be, 23, none⟩ = false ∧ w3.cell? ⟨A.be, 2, none⟩ = some (.pointer (some ⟨A.ba, 0, none⟩)) ∧ Calls Tryz.prog 112 #[.pointer (some ⟨A.ba, 0, none⟩)] w3.drew (fun e w' => e = .returned (zi ((σ.count + dl : Nat) : Int)) ∧ w' = w3.drew) ∧
     ∀ w4,w3.drew.setCell ⟨A.be,23,none⟩ (zi ((σ2.looks+dl:Nat):Int))=w4→Rep A3 ({σ2.setC s {c2 with k:=ok} with looks:=σ2.looks+dl}) w4∧Grow A2.L w2 A2.L w4∧w4.cell? ⟨A.bc s,10,none⟩=some (.bool c2.waits)∧w4.cell? ⟨A.bc s,11,none⟩=some (.bool c2.over)):=by
  intro A2 w2 v A3 hA3 q st;have ebc:A2.bc=A.bc:=st.bc;have ebe:A2.be=A.be:=st.be;have eba:A2.ba=A.ba:=st.ba;have x4:=q.call hc2 4 (v:=A2.vnext s) rfl;have z4:=q.callF hc2 4;rw[ebc] at x4 z4;refine⟨x4,z4,?_⟩;rintro w3 rfl;obtain⟨r3,g3⟩:=q.nextSet hc2 v ok;rw[←hA3,ebc] at r3;rw[ebc] at g3;have e3:A3.be=A.be:=by rw[hA3];exact ebe
  have e3a:A3.ba=A.ba:=by rw[hA3];exact eba
  have e3c:A3.bc=A.bc:=by rw[hA3];exact ebc
  have e3L:A3.L=A2.L:=by rw[hA3]
  have y23:=r3.eng 23 (v:=zi (σ2.looks:Int)) rfl;have z23:=r3.engF 23;have y2:=r3.eng 2 (v:=.pointer (some ⟨A3.ba,0,none⟩)) rfl;have hcn:=flip (count_any r3.drew (by show σ2.count<_;omega));rw[e3] at y23 z23 y2;rw[e3a] at hcn y2;rw[show (σ2.setC s {c2 with k:=ok}).count=σ.count+dl from hdl] at hcn;refine⟨y23,z23,y2,hcn,?_⟩;intro w4 hw4;obtain⟨r4,g4⟩:=r3.drew.looksSet (σ2.looks+dl);rw[e3,hw4] at r4 g4;rw[e3L] at g4;have hc4:({σ2.setC s {c2 with k:=ok} with looks:=σ2.looks+dl}:St).calls.getD s none=some {c2 with k:=ok}:=by show (σ2.setC s {c2 with k:=ok}).calls.getD s none=_;rw[getC_set (lt_of_call hc2),if_pos rfl]
  have a10:=r4.call hc4 10 (v:=.bool c2.waits) rfl;have a11:=r4.call hc4 11 (v:=.bool c2.over) rfl;rw[e3c] at a10 a11;exact⟨r4,(g3.trans (Grow.drew _ _)).trans g4,a10,a11⟩
 have hwx:(w.alloc (.cells #[zi 0,zi 0,zi 0,.slice none 0 0,zi 0,zi 0] 193)).cell? ⟨A.bc s,10,none⟩=some (.bool c.waits):=r0.call hc 10 rfl;have HVC:=zH hvc;clear hL ht hc hk hcnt hrun HS hc2 hdl hd1 hlk hcq r0 g0 fl fh hvc hk0 hkr hvn hσ1 hc1 hkp hs;generalize (σ.count:Int)=ca at*;generalize ((σ.count+dl:Nat):Int)=cb at*;generalize ((σ2.looks+dl:Nat):Int)=lb at*;go_enter Tryz.func92,Tryz.ntmps92;go_wp2_with (go_at_call 64;refine (hsok.out _).mono ?_;rintro e w' ⟨rfl,rfl⟩);generalize hw0:w.alloc _=w0 at*
 go_quiet (fail)
 generalize hw5:w0.drewN _=w5;obtain⟨x10,z10,h6⟩:=H5.out _ w5 hw5;obtain⟨y2,y4,hcn,hS,gg,fD⟩:=h6 _ rfl;have HC:=zH hcn;have HX:=zH (zA hS (zA gg fD));clear hcn hS gg fD h6 hw5 hw0 H5 v0 v1 hwx;go_wp2_with (go_at_call 112;refine HC.out.mono ?_;rintro e w' ⟨rfl,rfl⟩);refine HX.out.1.mono ?_;rintro e w2 ⟨A2,v,rfl,q1,q2,q3,q4⟩;subst hok;obtain⟨f2,u2,u3,rfl,hent2⟩:=KRep.enter q4;obtain⟨x4,z4,h3⟩:=H7.out A2 w2 (.func (.func f2) u2 u3) _ rfl q1 q3;obtain⟨y23,z23,y2',hcn,h4⟩:=h3 _ rfl;have HC2:=zH hcn;have HX2:=zH (zA q1 (zA q2 (zA q3 (zA q4 h4))));clear hcn h3 h4 q1 q2 q3 q4 H7 x10 z10 y2 y4;go_wp2_with fail;generalize hw3:w2.setCell ⟨A.bc s,4,none⟩ (.func (.func f2) u2 u3)=w3 at*;refine wp_region_still_tail 14 (by kernel_rfl) (by kernel_rfl) ?_;simp only[zta,ztb,ztc,ztd]
 repeat still_step
 still_call HC2.out
 repeat still_step
 refine wpStill_nil ?_;change wpList _ _ _ _ _ w3.drew;have y23d:w3.drew.cell? ⟨A.be,23,none⟩=some (zi (σ2.looks:Int)):=y23;have z23d:w3.drew.frozen? ⟨A.be,23,none⟩=false:=z23;generalize w3.drew=wd at*;obtain⟨r4,g4,a10,a11⟩:=HX2.out.2.2.2.2 _ rfl;have fD:=tmp_grow (tmp_grow HX.out.2.2 HX2.out.2.1) g4;have HTH:=zH (there_of fD.2);have HY:=zH (zA r4 (zA g4 fD));have HOV:=zH hov;rw[hov] at a11;clear r4 g4 fD hov
 cases hwt:c2.waits
 · rw[hwt] at a10
   have HWT:=zH hwt;clear hwt;go_wp2_with (refine wpList_store_mid rfl 193 (.tmp 4) (.tmp 77) rfl w.heap.size 0 #[zi 1,zi 0,zi 0,.slice none 0 0,zi 0,zi 0] rfl rfl HTH.out (by kernel_rfl) (by simp[Value.oneCell']) ?_;generalize hws:World.setCells _ _ _ _=ws);have hbut:=But.setCells w.heap.size [zi 1,zi 0,zi 0,.slice none 0 0,zi 0,zi 0] 0 (wd.setCell ⟨A.be,23,none⟩ (zi lb));have hfin:=heap_setCells6 HY.out.2.2.2 (zi 1) (zi 0) (zi 0) (.slice none 0 0) (zi 0) (zi 0);rw[show (wd.setCell ⟨A.be,23,none⟩ (zi lb)).setCells w.heap.size 0 [zi 1,zi 0,zi 0,.slice none 0 0,zi 0,zi 0]=ws from hws] at hbut hfin
   (try simp only[Exit.inBlock,Exit.then])
   refine bodyPost_ret (results_cell_tmp_row rfl _ _ w.heap.size 193 #[zi 1,zi 0,zi 0,.slice none 0 0,zi 0,zi 0] _ _ rfl hfin Tryz.underlying193 rfl (by kernel_rfl)) rfl ?_;have hkd:(if c2.waits then (2:Int) else 1)=1:=by rw[HWT.out];rfl
   rw[HQ.out,hkd];obtain⟨hc2,hdl,hcq,hs,_⟩:=HF.out;obtain⟨q1,q2,q3,q4,_⟩:=HX2.out;obtain⟨r4,g4,fD⟩:=HY.out;have r5:=r4.but fD.1 hbut;have gg:=(((HX.out.2.1.trans q2).trans g4).but (Nat.le_refl _) hbut)
   have hc':({σ2.setC s {c2 with k:=some k'} with looks:=σ2.looks+dl}:St).calls.getD s none=some {c2 with k:=some k'}:=by show (σ2.setC s {c2 with k:=some k'}).calls.getD s none=_;rw[getC_set (lt_of_call hc2),if_pos rfl]
   refine⟨{A2 with vnext:=upF A2.vnext s (.func (.func f2) u2 u3)},.slice none 0 0,rfl,FRow.nil _ _ _,Live.of (s:=s) HL0.out HSW.out r5 gg ⟨q3.bf,q3.mp,q3.mt,fun q _=>by rw[show ({A2 with vnext:=_}:Book).bt=A.bt from q3.bt],fun q _=>by rw[show ({A2 with vnext:=_}:Book).bc=A.bc from q3.bc],q3.bx,q3.vpairs,fun q hq=>(upF_other _ _ hq).trans (congrFun q3.vnext q),fun q _=>congrFun q3.vcall q⟩ (fun q hq=>?_) (fun c' hcc=>?_) (fun hnn=>by have h0:=hc'.symm.trans hnn;cases h0),gg,q3.be⟩
   · show (σ2.setC s _).calls.getD q none=_
     rw[getC_set (lt_of_call hc2),if_neg hq];exact hcq q hq
   · obtain rfl:{c2 with k:=some k'}=c':=Option.some.inj (hc'.symm.trans hcc)
     refine⟨?_,k',rfl,?_⟩
     · show A2.vcall s=ptr (A2.bc s)
       rw[q3.vcall,q3.bc];exact HVC.out
     · have ek:kp {A2 with vnext:=upF A2.vnext s (.func (.func f2) u2 u3)} ({σ2.setC s {c2 with k:=some k'} with looks:=σ2.looks+dl}:St) s=kp A2 σ2 s:=by unfold kp;rw[call_get hc',call_get hc2]
       rw[ek,show ({A2 with vnext:=upF A2.vnext s (.func (.func f2) u2 u3)}:Book).vnext s=.func (.func f2) u2 u3 from upF_same _ _ _];exact (q4.grow g4).soft (hbut.soft fD.1)
 · rw[hwt] at a10
   have HWT:=zH hwt;clear hwt;go_wp2_with (refine wpList_store_mid rfl 193 (.tmp 4) (.tmp 70) rfl w.heap.size 0 #[zi 2,zi 0,zi 0,.slice none 0 0,zi 0,zi 0] rfl rfl HTH.out (by kernel_rfl) (by simp[Value.oneCell']) ?_;generalize hws:World.setCells _ _ _ _=ws);have hbut:=But.setCells w.heap.size [zi 2,zi 0,zi 0,.slice none 0 0,zi 0,zi 0] 0 (wd.setCell ⟨A.be,23,none⟩ (zi lb));have hfin:=heap_setCells6 HY.out.2.2.2 (zi 2) (zi 0) (zi 0) (.slice none 0 0) (zi 0) (zi 0);rw[show (wd.setCell ⟨A.be,23,none⟩ (zi lb)).setCells w.heap.size 0 [zi 2,zi 0,zi 0,.slice none 0 0,zi 0,zi 0]=ws from hws] at hbut hfin
   (try simp only[Exit.inBlock,Exit.then])
   refine bodyPost_ret (results_cell_tmp_row rfl _ _ w.heap.size 193 #[zi 2,zi 0,zi 0,.slice none 0 0,zi 0,zi 0] _ _ rfl hfin Tryz.underlying193 rfl (by kernel_rfl)) rfl ?_;have hkd:(if c2.waits then (2:Int) else 1)=2:=by rw[HWT.out];rfl
   rw[HQ.out,hkd];obtain⟨hc2,hdl,hcq,hs,_⟩:=HF.out;obtain⟨q1,q2,q3,q4,_⟩:=HX2.out;obtain⟨r4,g4,fD⟩:=HY.out;have r5:=r4.but fD.1 hbut;have gg:=(((HX.out.2.1.trans q2).trans g4).but (Nat.le_refl _) hbut)
   have hc':({σ2.setC s {c2 with k:=some k'} with looks:=σ2.looks+dl}:St).calls.getD s none=some {c2 with k:=some k'}:=by show (σ2.setC s {c2 with k:=some k'}).calls.getD s none=_;rw[getC_set (lt_of_call hc2),if_pos rfl]
   refine⟨{A2 with vnext:=upF A2.vnext s (.func (.func f2) u2 u3)},.slice none 0 0,rfl,FRow.nil _ _ _,Live.of (s:=s) HL0.out HSW.out r5 gg ⟨q3.bf,q3.mp,q3.mt,fun q _=>by rw[show ({A2 with vnext:=_}:Book).bt=A.bt from q3.bt],fun q _=>by rw[show ({A2 with vnext:=_}:Book).bc=A.bc from q3.bc],q3.bx,q3.vpairs,fun q hq=>(upF_other _ _ hq).trans (congrFun q3.vnext q),fun q _=>congrFun q3.vcall q⟩ (fun q hq=>?_) (fun c' hcc=>?_) (fun hnn=>by have h0:=hc'.symm.trans hnn;cases h0),gg,q3.be⟩
   · show (σ2.setC s _).calls.getD q none=_
     rw[getC_set (lt_of_call hc2),if_neg hq];exact hcq q hq
   · obtain rfl:{c2 with k:=some k'}=c':=Option.some.inj (hc'.symm.trans hcc)
     refine⟨?_,k',rfl,?_⟩
     · show A2.vcall s=ptr (A2.bc s)
       rw[q3.vcall,q3.bc];exact HVC.out
     · have ek:kp {A2 with vnext:=upF A2.vnext s (.func (.func f2) u2 u3)} ({σ2.setC s {c2 with k:=some k'} with looks:=σ2.looks+dl}:St) s=kp A2 σ2 s:=by unfold kp;rw[call_get hc',call_get hc2]
       rw[ek,show ({A2 with vnext:=upF A2.vnext s (.func (.func f2) u2 u3)}:Book).vnext s=.func (.func f2) u2 u3 from upF_same _ _ _];exact (q4.grow g4).soft (hbut.soft fD.1)
theorem over_tells {A:Book} {σ:St} {w:World} (hR:Rep A σ w) (s link:Nat):
 Calls Tryz.prog 282 #[.pointer (some ⟨A.be,0,none⟩),.pointer (some ⟨A.bt s,0,none⟩),.pointer (some ⟨A.bc s,0,none⟩),.pointer (some ⟨(kp A σ s).x,0,none⟩),zu (link:Int)] w (Tells A w s (σ,.over link)):=by
 have F:=zH (allocs5 hR #[.pointer (some ⟨A.be,0,none⟩)] 85 #[.pointer (some ⟨A.bt s,0,none⟩)] 123 #[.pointer (some ⟨A.bc s,0,none⟩)] 125 #[.pointer (some ⟨(kp A σ s).x,0,none⟩)] 322 #[zu (link:Int)] 33);clear hR;go_enter Tryz.func282,Tryz.ntmps282;go_wp2;go_ret;obtain⟨r1,r2,f0,f1,f2,f3,f4⟩:=F.out;exact⟨A,_,rfl,r1,r2,Stay.refl _ _,_,_,_,_,_,rfl,f0.box,f2.box,f4.box,f1.box,f3.box⟩
variable {A:Book} {σ:St} {w:World}
theorem k_slotE_true (hR:Rep A σ w) (s:Nat) (t:Txn) (ht:σ.txns.getD s none=some t) (link head:Nat) (hcnt:σ.count<4000000000000000000) (hv:VL σ link) (b0 b1 b2 b3 b4 b5:Nat)
 (B0:Box A.L w b0 (.pointer (some ⟨A.be,0,none⟩))) (B1:Box A.L w b1 (zu (link:Int))) (B2:Box A.L w b2 (.pointer (some ⟨(kp A σ s).x,0,none⟩))) (B3:Box A.L w b3 (.pointer (some ⟨A.bt s,0,none⟩))) (B4:Box A.L w b4 (.pointer (some ⟨A.bc s,0,none⟩))) (B5:HeadBox A.L w b5 true head):
 Calls Tryz.prog 280 #[.pointer (some ⟨b0,0,none⟩),.pointer (some ⟨b1,0,none⟩),.pointer (some ⟨b2,0,none⟩),.pointer (some ⟨b3,0,none⟩),.pointer (some ⟨b4,0,none⟩),.pointer (some ⟨b5,0,none⟩)] w (Ran A w s (σ.run s (.slotE true link head))):=by
 have hsl:=hR.sl;obtain⟨hv5,X5,R5⟩:=B5;obtain⟨ha,hn,hcap,rfl,hlen,hcap1,hcap2,hrow⟩:=R5;have c0:=B0.cell;have c1:=B1.cell;have e2:=hR.z2;have HS:=zH (flip (slot_at link 1 1 rfl hv.lo (by have:=hv.hi;omega) hv.u (by omega) w.drew));have HF:=zH (forever_still w.drew);have HL:=zH (store_any hR.drew (wslot link 1) ever (wslot_lt hR hv.lo hv.hi (by omega)) hcnt);have HG:=zG A.L w;have HB:Hid (∀ w1,Rep A (σ.put (wslot link 1) ever) w1→Grow A.L w A.L w1→Calls Tryz.prog 282 #[.pointer (some ⟨A.be,0,none⟩),.pointer (some ⟨A.bt s,0,none⟩),.pointer (some ⟨A.bc s,0,none⟩),.pointer (some ⟨(kp A σ s).x,0,none⟩),zu (link:Int)] w1 (Tells A w1 s (σ.put (wslot link 1) ever,.over link))∧w1.cell? ⟨b0,0,none⟩=some (.pointer (some ⟨A.be,0,none⟩))∧w1.cell? ⟨b1,0,none⟩=some (zu (link:Int))∧w1.cell? ⟨b2,0,none⟩=some (.pointer (some ⟨(kp A σ s).x,0,none⟩))∧w1.cell? ⟨b3,0,none⟩=some (.pointer (some ⟨A.bt s,0,none⟩))∧w1.cell? ⟨b4,0,none⟩=some (.pointer (some ⟨A.bc s,0,none⟩))):=
  fun w1 q g=>⟨over_tells q s link,(B0.grow g).cell,(B1.grow g).cell,(B2.grow g).cell,(B3.grow g).cell,(B4.grow g).cell⟩
 have hrun:σ.run s (.slotE true link head)=(σ.put (wslot link 1) ever,some (.over link)):=rfl;rw[hrun];clear hR ht hcnt hv B0 B1 B2 B3 B4 X5 hrun hsl hlen hcap1 hcap2 hrow;go_enter Tryz.func280,Tryz.ntmps280;go_wp2_with fail;refine wp_region_still_tail 7 (by kernel_rfl) (by kernel_rfl) ?_;simp only[zta,ztb,ztc,ztd]
 repeat still_step
 still_call HS.out
 still_call HF.out
 refine wpStill_nil ?_;change wpList _ _ _ _ _ w.drew;generalize w.drew=wd at*;go_wp2_with (first|(go_at_call 71;refine HL.out.mono ?_;rintro e w1 ⟨rfl,q1,q2⟩;have g1:=HG.out.trans q2;obtain⟨hf,d0,d1,d2,d3,d4⟩:=HB.out w1 q1 g1;have HQ:=zH (zA hf g1);clear q1 q2 g1 hf)|(go_at_call 282;refine HQ.out.1.mono ?_;rintro e w2 ⟨A2,v,rfl,p1,p2,p3,p4⟩));go_ret;exact⟨A2,v,rfl,p1,HQ.out.2.trans p2,p3,p4⟩
theorem k_slotE_false (hR:Rep A σ w) (s:Nat) (t:Txn) (ht:σ.txns.getD s none=some t) (link head:Nat) (hcnt:σ.count<4000000000000000000) (hv:VL σ link) (b0 b1 b2 b3 b4 b5:Nat)
 (B0:Box A.L w b0 (.pointer (some ⟨A.be,0,none⟩))) (B1:Box A.L w b1 (zu (link:Int))) (B2:Box A.L w b2 (.pointer none)) (B3:Box A.L w b3 (.pointer (some ⟨A.bt s,0,none⟩))) (B4:Box A.L w b4 (.pointer (some ⟨A.bc s,0,none⟩))) (B5:HeadBox A.L w b5 false head):
 Calls Tryz.prog 280 #[.pointer (some ⟨b0,0,none⟩),.pointer (some ⟨b1,0,none⟩),.pointer (some ⟨b2,0,none⟩),.pointer (some ⟨b3,0,none⟩),.pointer (some ⟨b4,0,none⟩),.pointer (some ⟨b5,0,none⟩)] w (Ran A w s (σ.run s (.slotE false link head))):=by
 have hsl:=hR.sl;obtain⟨hv5,X5,R5⟩:=B5;obtain⟨ha,hn,hcap,rfl,hlen,hcap1,hcap2,hrow⟩:=R5;have c0:=B0.cell;have c1:=B1.cell;have e2:=hR.z2;have HS:=zH (flip (slot_at link 1 1 rfl hv.lo (by have:=hv.hi;omega) hv.u (by omega) w.drew));have HF:=zH (forever_still w.drew);have HL:=zH (store_any hR.drew (wslot link 1) ever (wslot_lt hR hv.lo hv.hi (by omega)) hcnt);have HG:=zG A.L w;have hn1:hn=1:=by simpa using hlen.symm
 subst hn1;obtain⟨hg,hoff,rfl,hlg,hltg,hcs⟩:=hrow.resolve_left (by omega);have h0:w.cell? ⟨hg,hoff,none⟩=some (zu (head:Int)):=hcs 0 (by omega);have HB:Hid (∀ w1,Rep A (σ.put (wslot link 1) ever) w1→Grow A.L w A.L w1→Calls Tryz.prog 281 #[.pointer (some ⟨A.be,0,none⟩),.pointer (some ⟨A.bt s,0,none⟩),.pointer (some ⟨A.bc s,0,none⟩),zu (link:Int),zu (head:Int)] w1.drew (Tells A w1.drew s (σ.put (wslot link 1) ever,.push link head))∧w1.cell? ⟨b0,0,none⟩=some (.pointer (some ⟨A.be,0,none⟩))∧w1.cell? ⟨b1,0,none⟩=some (zu (link:Int))∧w1.cell? ⟨b2,0,none⟩=some (.pointer none)∧w1.cell? ⟨b3,0,none⟩=some (.pointer (some ⟨A.bt s,0,none⟩))∧w1.cell? ⟨b4,0,none⟩=some (.pointer (some ⟨A.bc s,0,none⟩))∧w1.cell? ⟨b5,0,none⟩=some (.slice (some ⟨hg,hoff,none⟩) 1 hcap)∧w1.cell? ⟨hg,hoff,none⟩=some (zu (head:Int))):=
  fun w1 q g=>⟨push_any q.drew s link head,(B0.grow g).cell,(B1.grow g).cell,(B2.grow g).cell,(B3.grow g).cell,(B4.grow g).cell,(X5.grow g).cell,(World.cell?_of_block (w:=w) (a:=⟨hg,hoff,none⟩) (g.block hg hltg hlg)).trans h0⟩
 have hrun:σ.run s (.slotE false link head)=(σ.put (wslot link 1) ever,some (.push link head)):=rfl;rw[hrun];clear hR ht hcnt hv B0 B1 B2 B3 B4 X5 hrun hsl hlen hcap1 hcap2 hrow hcs h0;go_enter Tryz.func280,Tryz.ntmps280;go_wp2_with fail;refine wp_region_still_tail 7 (by kernel_rfl) (by kernel_rfl) ?_;simp only[zta,ztb,ztc,ztd]
 repeat still_step
 still_call HS.out
 still_call HF.out
 refine wpStill_nil ?_;change wpList _ _ _ _ _ w.drew;generalize w.drew=wd at*;go_wp2_with (go_at_call 71;refine HL.out.mono ?_;rintro e w1 ⟨rfl,q1,q2⟩;have g1:=HG.out.trans q2;obtain⟨hf,d0,d1,d2,d3,d4,d5,d6⟩:=HB.out w1 q1 g1;have HQ:=zH (zA hf (g1.trans (Grow.drew _ _)));clear q1 q2 g1 hf);refine wp_region_still_tail 7 (by kernel_rfl) (by kernel_rfl) ?_;simp only[zta,ztb,ztc,ztd]
 repeat still_step
 refine wpStill_nil ?_;change wpList _ _ _ _ _ w1.drew;generalize w1.drew=wd1 at*;go_wp2_with (go_at_call 281;refine HQ.out.1.mono ?_;rintro e w2 ⟨A2,v,rfl,p1,p2,p3,p4⟩);go_ret;exact⟨A2,v,rfl,p1,HQ.out.2.trans p2,p3,p4⟩
theorem k_slotE (hR:Rep A σ w) (s:Nat) (t:Txn) (ht:σ.txns.getD s none=some t) (x:Bool) (link head:Nat) (hcnt:σ.count<4000000000000000000) (hv:VL σ link) (b0 b1 b2 b3 b4 b5:Nat)
 (B0:Box A.L w b0 (.pointer (some ⟨A.be,0,none⟩))) (B1:Box A.L w b1 (zu (link:Int))) (B2:Box A.L w b2 ((kp A σ s).xo x)) (B3:Box A.L w b3 (.pointer (some ⟨A.bt s,0,none⟩))) (B4:Box A.L w b4 (.pointer (some ⟨A.bc s,0,none⟩))) (B5:HeadBox A.L w b5 x head):
 Calls Tryz.prog 280 #[.pointer (some ⟨b0,0,none⟩),.pointer (some ⟨b1,0,none⟩),.pointer (some ⟨b2,0,none⟩),.pointer (some ⟨b3,0,none⟩),.pointer (some ⟨b4,0,none⟩),.pointer (some ⟨b5,0,none⟩)] w (Ran A w s (σ.run s (.slotE x link head))):=by
 cases x
 · exact k_slotE_false hR s t ht link head hcnt hv b0 b1 b2 b3 b4 b5 B0 B1 B2 B3 B4 B5
 · exact k_slotE_true hR s t ht link head hcnt hv b0 b1 b2 b3 b4 b5 B0 B1 B2 B3 B4 B5
theorem k_over (hR:Rep A σ w) (s:Nat) (c:Cal) (hc:σ.calls.getD s none=some c) (link:Nat) (hk:c.op.key<64) (hcnt:σ.count<4000000000000000000)
 (b0 b1 b2 b3 b4:Nat) (B0:Box A.L w b0 (.pointer (some ⟨A.be,0,none⟩))) (B1:Box A.L w b1 (.pointer (some ⟨A.bc s,0,none⟩))) (B2:Box A.L w b2 (zu (link:Int))) (B3:Box A.L w b3 (.pointer (some ⟨A.bt s,0,none⟩))) (B4:Box A.L w b4 (.pointer (some ⟨(kp A σ s).x,0,none⟩))):
 Calls Tryz.prog 306 #[.pointer (some ⟨b0,0,none⟩),.pointer (some ⟨b1,0,none⟩),.pointer (some ⟨b2,0,none⟩),.pointer (some ⟨b3,0,none⟩),.pointer (some ⟨b4,0,none⟩)] w (Ran A w s (σ.run s (.over link))):=by
 have c0:=B0.cell;have c1:=B1.cell;have e2:=hR.z2;have k1:w.cell? ⟨A.bc s,1,none⟩=some (zi (c.op.key:Int)):=hR.call hc 1 rfl;have n1:IntKind.i64.wrap (9+(c.op.key:Int))=9+(c.op.key:Int):=by rw[IntKind.wrap_i64];omega
 have HL:Hid (∀ w',Rep A σ w'→Calls Tryz.prog 66 #[.pointer (some ⟨A.ba,0,none⟩),zi (9+(c.op.key:Int))] w' (Did A w' σ.tick (zu (σ.word (9+c.op.key):Int)))):=fun w' r=>load_i r (9+c.op.key) (9+(c.op.key:Int)) (by omega) (by rw[r.nw];omega) hcnt
 have HRd:Hid (Rep A σ w.drew):=hR.drew;have x0:=World.new_ne w _ c0;have x1:=World.new_ne w _ c1;have x2:=World.new_ne w _ e2;have x3:=World.new_ne w _ k1;have HKK:Hid (∀ w',Rep A σ.tick w'→Grow A.L w A.L w'→w'.cell? ⟨b0,0,none⟩=some (.pointer (some ⟨A.be,0,none⟩))∧w'.cell? ⟨b1,0,none⟩=some (.pointer (some ⟨A.bc s,0,none⟩))∧w'.cell? ⟨A.be,2,none⟩=some (.pointer (some ⟨A.ba,0,none⟩))∧w'.cell? ⟨A.bc s,1,none⟩=some (zi (c.op.key:Int))):=fun w' r g=>⟨(B0.grow g).cell,(B1.grow g).cell,r.eng 2 rfl,r.call hc 1 rfl⟩
 have HFX:Hid (Fix A.L (w.drew.alloc (.cells #[zu 0] 33)) w.heap.size (.cells #[zu 0] 33)):=fix_next hR.drew.mem.fresh _ rfl;have hl0:A.L w.heap.size=none:=hR.mem.fresh _ (Nat.le_refl _);have HKS:Hid (∀ w',Rep A σ.tick w'→Grow A.L w A.L w'→(w'.setCell ⟨w.heap.size,0,none⟩ (zu (σ.word (9+c.op.key):Int))).cell? ⟨b0,0,none⟩=some (.pointer (some ⟨A.be,0,none⟩))∧(w'.setCell ⟨w.heap.size,0,none⟩ (zu (σ.word (9+c.op.key):Int))).cell? ⟨b1,0,none⟩=some (.pointer (some ⟨A.bc s,0,none⟩))∧(w'.setCell ⟨w.heap.size,0,none⟩ (zu (σ.word (9+c.op.key):Int))).cell? ⟨A.be,2,none⟩=some (.pointer (some ⟨A.ba,0,none⟩))∧(w'.setCell ⟨w.heap.size,0,none⟩ (zu (σ.word (9+c.op.key):Int))).cell? ⟨A.bc s,1,none⟩=some (zi (c.op.key:Int))):=fun w' r g=>by
  obtain⟨r',g'⟩:=hR.setNew r g rfl rfl (a:=⟨w.heap.size,0,none⟩) (Nat.le_refl _) hl0 (zu (σ.word (9+c.op.key):Int));exact HKK.out _ r' g'
 have hrun:σ.run s (.over link)=(σ.tick,some (.overN link (σ.word (9+c.op.key)))):=by simp only[St.run,call_get hc]
 rw[hrun];have HG:=zG A.L w;have HB:=zH (zA B0 (zA B1 (zA B2 (zA B3 B4))));have HSET:Hid (∀ w',Rep A σ.tick w'→Grow A.L w A.L w'→Rep A σ.tick (w'.setCell ⟨w.heap.size,0,none⟩ (zu (σ.word (9+c.op.key):Int)))∧Grow A.L w A.L (w'.setCell ⟨w.heap.size,0,none⟩ (zu (σ.word (9+c.op.key):Int)))):=fun w' r g=>hR.setNew r g rfl rfl (a:=⟨w.heap.size,0,none⟩) (Nat.le_refl _) hl0 (zu (σ.word (9+c.op.key):Int))
 clear hl0;clear hR hc hcnt B0 B1 B2 B3 B4 hrun hk;generalize σ.word (9+c.op.key)=hd at*;generalize c.op.key=key at*;go_enter Tryz.func306,Tryz.ntmps306;go_wp2_with fail
 go_region_held3 (fun w'=>w'.cell? ⟨b0,0,none⟩=some (.pointer (some ⟨A.be,0,none⟩))∧w'.cell? ⟨b1,0,none⟩=some (.pointer (some ⟨A.bc s,0,none⟩))∧w'.cell? ⟨A.be,2,none⟩=some (.pointer (some ⟨A.ba,0,none⟩))∧w'.cell? ⟨A.bc s,1,none⟩=some (zi (key:Int)))
  (first|exact⟨c0,c1,e2,k1⟩|assumption|go_keep|exact HKK.out _ (by assumption) (by assumption)|exact HKK.out _ (Rep.alloc (by assumption) _) (Grow.trans (by assumption) (Grow.alloc _ _ _))|exact HKS.out _ (by assumption) (by assumption))
  (first|(go_at_call 66;refine (HL.out _ HRd.out).mono ?_;rintro e w1 ⟨rfl,q1,q2⟩;have q4:=HG.out.trans q2)|(go_at_call 66;refine (HL.out _ (HRd.out.alloc _)).mono ?_;rintro e w1 ⟨rfl,q1,q2⟩;have q4:=(HG.out.trans (Grow.alloc _ _ _)).trans q2;have fx:=HFX.out.grow q2;have nb:=fx.cell 0 (v:=zu 0) rfl;have nz:=fx.frozen 0;have FX:=zH fx;clear fx))
 · go_wp2_with fail
   go_ret;obtain⟨r3,g3,f0⟩:=allocs1 q1 #[zu (hd:Int)] 33;have g:=q4.trans g3;obtain⟨B0,B1,B2,B3,B4⟩:=HB.out;exact⟨A,_,rfl,r3,g,Stay.refl _ _,_,_,_,_,_,_,rfl,B0.grow g,B2.grow g,f0.box,B1.grow g,B3.grow g,B4.grow g⟩
 · go_wp2_with fail
   go_ret;obtain⟨r3,g⟩:=HSET.out _ q1 q4;obtain⟨B0,B1,B2,B3,B4⟩:=HB.out;exact⟨A,_,rfl,r3,g,Stay.refl _ _,_,_,_,_,_,_,rfl,B0.grow g,B2.grow g,(FX.out.setSame _).box,B1.grow g,B3.grow g,B4.grow g⟩
theorem infoPr:(Tryz.prog.info? 172).map (fun i=>(i.zero,i.size,i.bytes))=some (some (.agg #[zi 0,zi 0]),2,16):=by kernel_rfl
theorem pairCs_one:∀ (l:List (Nat×Nat)),∀ u∈pairCs l,u.oneCell'=true
 |[],u,h=>by cases h
 |p::l,u,h=>by
  have e:pairCs (p::l)=zi (p.1:Int)::zi (p.2:Int)::pairCs l:=rfl;rw[e] at h
  rcases List.mem_cons.1 h with rfl|h
  · rfl
  · rcases List.mem_cons.1 h with rfl|h
    · rfl
    · exact pairCs_one l u h
theorem own_but {w w':World} {base:Nat} {v:Value} {n b:Nat} {xs:List Value} {cs:Array Value} {T:TypeId} (h:w.ownsRow base 172 2 v n xs) (hb:But b w w') (hc:w.heap[b]? =some (.cells cs T)) (hT:T≠172):w'.ownsRow base 172 2 v n xs:=by
 rcases h.2 with ⟨e1,e2⟩|⟨g,cap',cur,hv,hb',hg,hx1,hx2,hx3,hx4⟩
 · exact⟨h.1,.inl ⟨e1,e2⟩⟩
 · have hgne:g≠b:=by
    rintro rfl;rw[hc] at hg;simp only[Option.some.injEq,Obj.cells.injEq] at hg;exact hT hg.2.1
   exact⟨h.1,.inr ⟨g,cap',cur,hv,hb',(hb.block g hgne).trans hg,hx1,hx2,hx3,hx4⟩⟩
theorem copied_any (w:World) (re rv ro rr:Int) (a:Option Addr) (n cap:Nat) (ps:List (Nat×Nat)) (hr:Ow.Row w 0 2 (.slice a n cap) (pairCs ps)) (hn:ps.length=n) (hl:n≤1000000):
 Calls Tryz.prog 120 #[.agg #[zi re,zi rv,.slice a n cap,zi ro,zi rr]] w fun e w'=>∃ a' c',e=.returned (.agg #[zi re,zi rv,.slice a' n c',zi ro,zi rr])∧w'.ownsRow w.heap.size 172 2 (.slice a' n c') n (pairCs ps)∧Below w.heap.size w w':=by
 obtain⟨i0,hi,hz0,hz1,hz2⟩:=info_parts infoPr;have HR:=zH hr;have HM:=zH (zA hn hl);obtain⟨W,hW⟩:∃ W,W=(w.alloc (.cells #[zi re,zi rv,.slice a n cap,zi ro,zi rr] 168)).alloc (.cells #[zi 0,zi 0,.slice none 0 0,zi 0,zi 0] 168):=⟨_,rfl⟩
 have hWs:W.heap.size=w.heap.size+1+1:=by rw[hW];simp
 have hWb:Below w.heap.size w W:=by rw[hW];exact (((Below.refl _ _).alloc (Nat.le_refl _) _)).alloc (by simp) _
 have hW0:W.heap[w.heap.size]? =some (.cells #[zi re,zi rv,.slice a n cap,zi ro,zi rr] 168):=by rw[hW,heap_alloc_old _ _ (by simp),heap_alloc_new]
 have hW1:W.heap[w.heap.size+1]? =some (.cells #[zi 0,zi 0,.slice none 0 0,zi 0,zi 0] 168):=by
  have:=heap_alloc_new (w.alloc (.cells #[zi re,zi rv,.slice a n cap,zi ro,zi rr] 168)) (.cells #[zi 0,zi 0,.slice none 0 0,zi 0,zi 0] 168);rw[hW];simpa using this
 have HW:=zH (zA hWs (zA hWb (zA hW0 (zA hW1 (hr.below hWb)))));have HF:Hid (∀ v' w2,w2.ownsRow w.heap.size 172 2 v' n (pairCs ps)→W.grownBy w2 none→∃ a' c',v'=.slice a' n c'∧w2.heap[w.heap.size]? =some (.cells #[zi re,zi rv,.slice a n cap,zi ro,zi rr] 168)∧w2.heap[w.heap.size+1]? =some (.cells #[zi 0,zi 0,.slice none 0 0,zi 0,zi 0] 168)∧w2.cell? ⟨w.heap.size,2,none⟩=some (.slice a n cap)∧w2.frozen? ⟨w.heap.size,2,none⟩=false∧Below w.heap.size w w2):=by
  intro v' w2 q1 q2;obtain⟨a',c',rfl,_⟩:=Ow.own_form q1;have h0:w2.heap[w.heap.size]? =_:=(q2.block _ (by rw[hWs];omega) (by simp)).trans hW0;have h1:w2.heap[w.heap.size+1]? =_:=(q2.block _ (by rw[hWs];omega) (by simp)).trans hW1;refine⟨a',c',rfl,h0,h1,by simp[World.cell?,h0],by simp[World.frozen?,h0],⟨q2.os.trans hWb.os,q2.tape.trans hWb.tape,q2.output.trans hWb.output,Nat.le_trans hWb.size q2.size,fun b hb=>(q2.block b (by rw[hWs];omega) (by simp)).trans (hWb.block b hb)⟩⟩
 have w1c:W.cell? ⟨w.heap.size,2,none⟩=some (.slice a n cap):=by simp[World.cell?,hW0]
 clear hW0 hW1 hWb hr hn hl;go_enter Tryz.func120,Tryz.ntmps120;go_upto_region 1 with fail
 rw[←hW];clear hW;go_upto_region 2 with (refine Ow.wpList_append_row W rfl (.const (.slice none 0 0)) (.tmp 4) 100 rfl w.heap.size 172 i0 _ 2 16 Tryz.underlying100 hi hz0 hz1 hz2 rfl (by decide) (.slice none 0 0) 0 [] rfl (World.ownsRow_nil _ _ _ _) 0 (.slice a n cap) (pairCs ps) rfl HW.out.2.2.2.2 n (by rw[pairCs_len,HM.out.1]) (pairCs_one ps) (by have:=HM.out.2;unfold maxLen;omega) (by have:=HM.out.2;omega) (by rw[HW.out.1];omega) ?_;intro v' w2 q1 q2;rw[List.nil_append,Nat.zero_add] at q1;obtain⟨a',c',rfl,f0,f1,f2,f3,f4⟩:=HF.out _ _ q1 q2;have HQ:=zH (zA q1 (zA f0 (zA f1 f4)));clear q1 q2 f0 f1 f4)
 generalize hw3:w2.setCell ⟨w.heap.size,2,none⟩ (.slice a' n c')=w3 at*;obtain⟨q1,f0,f1,f4⟩:=HQ.out;have g0:w3.heap[w.heap.size]? =some (.cells #[zi re,zi rv,.slice a' n c',zi ro,zi rr] 168):=by rw[←hw3];exact heap_setCell_same f0 2 _
 have g1:w3.heap[w.heap.size+1]? =some (.cells #[zi 0,zi 0,.slice none 0 0,zi 0,zi 0] 168):=by rw[←hw3,Below.heap_setCell _ _ _ _ (by simp)];exact f1
 have gb:Below w.heap.size w w3:=by rw[←hw3];exact⟨f4.os,f4.tape,f4.output,by simpa [World.setCell] using f4.size,fun b hb=>(Below.heap_setCell _ _ _ _ (by rintro rfl;simp at hb)).trans (f4.block b hb)⟩
 have go:w3.ownsRow w.heap.size 172 2 (.slice a' n c') n (pairCs ps):=by
  rw[←hw3];exact own_but q1 (But.setCell w2 ⟨w.heap.size,2,none⟩ _) f0 (by decide)
 have HG:=zH (zA g0 (zA (there_of g1) (zA gb (zA go g1))));have y0:w3.cell? ⟨w.heap.size,0,none⟩=some (zi re):=by simp[World.cell?,g0]
 have y1:w3.cell? ⟨w.heap.size,1,none⟩=some (zi rv):=by simp[World.cell?,g0]
 have y2:w3.cell? ⟨w.heap.size,2,none⟩=some (.slice a' n c'):=by simp[World.cell?,g0]
 have y3:w3.cell? ⟨w.heap.size,3,none⟩=some (zi ro):=by simp[World.cell?,g0]
 have y4:w3.cell? ⟨w.heap.size,4,none⟩=some (zi rr):=by simp[World.cell?,g0]
 clear q1 f0 f1 f4 g0 g1 gb go HQ HF f2 f3 w1c;go_wp2_with (refine wpList_store_mid rfl 168 (.tmp 2) (.tmp 7) rfl (w.heap.size+1) 0 #[zi re,zi rv,.slice a' n c',zi ro,zi rr] rfl rfl HG.out.2.1 (by kernel_rfl) (by simp[Value.oneCell']) ?_;generalize hws:World.setCells _ _ _ _=ws);have hfin:=heap_setCells5 HG.out.2.2.2.2 (zi re) (zi rv) (.slice a' n c') (zi ro) (zi rr);have hbut:=But.setCells (w.heap.size+1) [zi re,zi rv,.slice a' n c',zi ro,zi rr] 0 w3;rw[show w3.setCells (w.heap.size+1) 0 [zi re,zi rv,.slice a' n c',zi ro,zi rr]=ws from hws] at hbut hfin;refine bodyPost_ret (results_cell_row rfl _ _ (w.heap.size+1) 168 #[zi re,zi rv,.slice a' n c',zi ro,zi rr] _ _ rfl hfin Tryz.underlying168 rfl (by kernel_rfl)) rfl ?_;exact⟨a',c',rfl,own_but HG.out.2.2.2.1 hbut HG.out.2.2.2.2 (by decide),⟨hbut.os.trans HG.out.2.2.1.os,hbut.tape.trans HG.out.2.2.1.tape,hbut.output.trans HG.out.2.2.1.output,by rw[hbut.size];exact HG.out.2.2.1.size,fun b hb=>(hbut.block b (by omega)).trans (HG.out.2.2.1.block b hb)⟩⟩
theorem prow_of_own {L:Lab} {w:World} {base:Nat} {a:Option Addr} {n c:Nat} {xs:List Value} (h:w.ownsRow base 172 2 (.slice a n c) n xs) (hL:∀ b,base≤b→b<w.heap.size→L b=none):PRow L w (.slice a n c) xs:=by
 obtain⟨a',c',e,h1,h2,h3⟩:=Ow.own_form h;obtain⟨rfl,rfl⟩:a=a'∧c=c':=by simpa using e
 refine⟨⟨a,n,c,rfl,h.1,h1,by unfold maxLen;omega,?_⟩,?_⟩
 · rcases h.2 with ⟨h0,hn⟩|⟨g,cap',cur,hv,hb,hg,hnc,hcm,hcs,htake⟩
   · exact .inl (by first|exact h0|omega)
   · obtain⟨rfl,rfl⟩:a=some ⟨g,0,none⟩∧c=cap':=by simpa using hv
     refine .inr ⟨g,0,rfl,hL g (h.lt g rfl).1 (h.lt g rfl).2,(h.lt g rfl).2,fun j hj=>?_⟩;rw[Nat.zero_add];exact h.cellAt j hj
 · intro g off n' cap hv
   rcases h.2 with ⟨h0,hn⟩|⟨g',cap',cur,hv',hb,hg,hnc,hcm,hcs,htake⟩
   · obtain⟨_,rfl,_⟩:a=some ⟨g,off,none⟩∧n=n'∧c=cap:=by simpa using hv
     exact .inl (by first|exact h0|omega)
   · rw[hv'] at hv
     simp only[Value.slice.injEq,Option.some.injEq,Addr.mk.injEq,and_true] at hv;obtain⟨⟨rfl,_⟩,_⟩:=hv;exact .inr ⟨cur,hg⟩
end Go.Proofs.YtiimlopcifljeaaGreatDoor.Em
