import Derived.Test.YthicolbbmjfkfaaGreatQn17
set_option linter.unusedVariables false
set_option linter.unusedSimpArgs false
set_option maxRecDepth 100000
set_option maxHeartbeats 1600000
namespace Go.Proofs.YthicolbbmjfkfaaGreat.Em
open Go.ChangeShapes Go.WideShapes Go.ChangeAt Go.RowKit En
def au.lab (A:au) (L:dE):au:={A with L:=L}
theorem xM (A:au) (D:St) (L:dE) (q:bU):bq (A.lab L) D q=bq A D q:=by cases q<;>rfl
structure Off (L:dE) (w:World) (L':dE) (E:World):Prop where
 size:w.heap.size<=E.heap.size
 same:∀ b,b<w.heap.size->L b≠some .tmp->E.heap[b]? =w.heap[b]?
 lab:∀ b,b<w.heap.size->L' b=L b
 fresh:∀ b,E.heap.size<=b->L' b=none
section
variable {A B:au} {D τ:St} {w E:World} {L L':dE}
theorem Off.soft (h:Off L w L' E):kE L w L' E:=⟨h.size,fun b hb e=>h.same b hb (by rw[e];simp),fun b hb e=>(h.lab b hb).trans e⟩
theorem aC.off (hR:aC A D w) (h:Off A.L w L' E):aC (A.lab L') D E:=by
 refine⟨⟨fun r=>?_,h.fresh⟩,hR.ev.soft h.soft,hR.sl,hR.nw,hR.nt,hR.nv,hR.n8,hR.nc⟩;rw[xM]
 by_cases hr:r=.tmp
 . subst hr;trivial
 . exact (hR.mem.all r).frame (fun k Z hk'=>h.same k Z (by rw[hk'];intro e;exact hr (zj e))) h.lab
theorem Live.off (hL:Live A D w) (h:Off A.L w L' E):Live (A.lab L') D E:=
 ⟨hL.rep.off h,hL.mp,hL.mt,fun s hs c hc=>let ⟨e1,k,e2,e3⟩:=hL.call s hs c hc;⟨e1,k,e2,(show ny (kp A D s) (A.lab L').L E (A.bA s) k from e3.soft h.soft)⟩,hL.idle,hL.sx.soft rfl h.soft⟩
end
theorem Entry.Holds.D9 {L L':dE} {w:World} {r:bU} {e:Entry} (h:e.Holds L w r) (hl:∀ b,L b=some r->L' b=some r):e.Holds L' w r:=by
 cases e with
 |none=>trivial
 |obj b cs T=>exact⟨hl _ h.1,h.2⟩
 |map b es c=>exact⟨hl _ h.1,h.2⟩
 |own v e size n xs=>exact⟨h.1,fun g hg=>hl _ (h.2 g hg)⟩
theorem Live.D9 {B:au} {τ:St} {w:World} {L':dE} (hL:Live B τ w) (ht:τ.aT=[]) (hc:∀ s,τ.calls.getD s none=none) (hs:τ.sw=none) (hl:∀ b q,B.L b=some q->L' b=some q) (hf:∀ b,w.heap.size<=b->L' b=none):Live (B.lab L') τ w:=by
 refine⟨⟨⟨fun r=>?_,hf⟩,?_,hL.rep.sl,hL.rep.nw,hL.rep.nt,hL.rep.nv,hL.rep.n8,hL.rep.nc⟩,hL.mp,hL.mt,fun s h c e=>(by rw[hc s] at e;cases e),hL.idle,⟨?_,hL.sx.cu⟩⟩
 . rw[xM]
   exact (hL.rep.mem.all r).D9 (fun b e=>hl b r e)
 . have h:=hL.rep.ev
   rw[ht] at h ⊢;exact h
 . have h:=hL.sx.sw
   rw[hs] at h ⊢;exact h
theorem Live.LQ {A:au} {D:St} {w:World} {L':dE} (hL:Live A D w) (h1:∀ b q,A.L b=some q->q≠.tmp->L' b=some q) (h0:∀ b,A.L b=none->L' b=none) (hf:∀ b,w.heap.size<=b->L' b=none):Live (A.lab L') D w:=by
 have sf:kE A.L w (A.lab L').L w:=⟨zr _,fun _ _ _=>rfl,fun b _ e=>h0 b e⟩
 refine⟨⟨⟨fun r=>?_,hf⟩,hL.rep.ev.soft sf,hL.rep.sl,hL.rep.nw,hL.rep.nt,hL.rep.nv,hL.rep.n8,hL.rep.nc⟩,hL.mp,hL.mt,fun s hs c hc=>let ⟨e1,k,e2,e3⟩:=hL.call s hs c hc;⟨e1,k,e2,(show ny (kp A D s) (A.lab L').L w (A.bA s) k from e3.soft sf)⟩,hL.idle,hL.sx.soft rfl sf⟩;rw[xM]
 by_cases hr:r=.tmp
 . subst hr;trivial
 . exact (hL.rep.mem.all r).D9 (fun b e=>h1 b r e hr)
def mG (n:Nat) (M:dE):dE:=fun k=>if k<n then M k else match M k with|some .tmp=>none|x=>x
theorem tZ {M:dE} {n k:Nat} (h:k<n):mG n M k=M k:=aV h
theorem uf {M:dE} {n k:Nat} {r:bU} (e:M k=some r) (hr:r≠.tmp):mG n M k=some r:=by
 unfold mG;rw[e]
 split
 . rfl
 . cases r<;>first|rfl|exact absurd rfl hr
theorem eF {M:dE} {n k:Nat} (e:M k=none):mG n M k=none:=by unfold mG;rw[e];split<;>rfl
theorem BJ {M:dE} {n k:Nat} {r:bU} (h:n<=k) (e:mG n M k=some r):M k=some r∧r≠.tmp:=by
 unfold mG at e;rw[aR (by omega)] at e
 split at e
 . cases e
 . rename_i x
   exact⟨e,by rintro rfl;exact x e⟩
section
variable {A B:au} {D τ:St} {w E:World} {L L':dE} {vs:List (Nat×Obj)}
structure Two (A:au) (D:St) (B:au) (τ:St) (vs:List (Nat×Obj)) (w:World):Prop where
 a:Live A D w
 b:Live B τ w
 ab:∀ k r,A.L k=some r->r≠.tmp->B.L k=some .tmp
 ba:∀ k r,B.L k=some r->r≠.tmp->A.L k=some .tmp
 at_:∀ k,A.L k=some .tmp->(∃ r,B.L k=some r∧r≠.tmp)∨∃ o,(k,o)∈vs
 bt:∀ k,B.L k=some .tmp->(∃ r,A.L k=some r∧r≠.tmp)∨∃ o,(k,o)∈vs
 vr:∀ k o,(k,o)∈vs->A.L k=some .tmp∧B.L k=some .tmp∧w.heap[k]? =some o
theorem Two.symm (h:Two A D B τ vs w):Two B τ A D vs w:=⟨h.b,h.a,h.ba,h.ab,h.bt,h.at_,fun k o hm=>⟨(h.vr k o hm).2.1,(h.vr k o hm).1,(h.vr k o hm).2.2⟩⟩
theorem Two.none (h:Two A D B τ vs w) {k:Nat} (e:A.L k=none):B.L k=none:=by
 cases e2:B.L k with
 |none=>rfl
 |some r=>
  by_cases hr:r=.tmp
  . subst hr
    rcases h.bt k e2 with ⟨q,e3,_⟩|⟨o,ho⟩
    . rw[e] at e3;cases e3
    . have:=(h.vr k o ho).1;rw[e] at this;cases this
  . have:=h.ba k r e2 hr
    rw[e] at this;cases this
def aside (L:dE) (n:Nat) (M:dE):dE:=fun k=>if k<n then L k else match M k with|some .tmp=>none|some _=>some .tmp|none=>none
theorem iy {M:dE} {n k:Nat} (h:k<n):aside L n M k=L k:=aV h
theorem nG {M:dE} {n k:Nat} (h:n<=k):aside L n M k=match M k with|some .tmp=>none|some _=>some .tmp|none=>none:=aR (by omega)
theorem Af {M:dE} {n k:Nat} {r:bU} (h:n<=k) (e:M k=some r) (hr:r≠.tmp):aside L n M k=some .tmp:=by
 rw[nG h,e]
 cases r<;>first|rfl|exact absurd rfl hr
theorem Ag {M:dE} {n k:Nat} {r:bU} (h:n<=k) (e:aside L n M k=some r):r=.tmp:=by
 rw[nG h] at e
 split at e
 . cases e
 . exact (zj e).symm
 . cases e
theorem Two.off (h:Two A D B τ vs w) {A':au} {bB:St} (hL:Live A' bB E) (g:Grow A.L w A'.L E):Off B.L w (aside B.L w.heap.size A'.L) E:=by
 refine⟨g.size,fun b hb hn=>?_,fun b hb=>iy hb,fun b hb=>?_⟩
 . cases e:A.L b with
   |none=>exact g.block b hb e
   |some r=>
    by_cases hr:r=.tmp
    . subst hr;exact g.keep b hb e
    . exact absurd (h.ab b r e hr) hn
 . have hb':w.heap.size<=b:=gy g.size hb
   rw[nG hb',hL.rep.mem.fresh b hb]
theorem Two.left (h:Two A D B τ vs w) {A':au} {bB:St} (hL:Live A' bB E) (g:Grow A.L w A'.L E):Two (A'.lab (mG w.heap.size A'.L)) bB (B.lab (aside B.L w.heap.size A'.L)) τ vs E:=by
 have hf:=hL.rep.mem.fresh;refine⟨hL.LQ (fun b q e hq=>uf e hq) (fun b e=>eF e) (fun b hb=>eF (hf b hb)),h.b.off (h.off hL g),fun k r e hr=>?_,fun k r e hr=>?_,fun k e=>?_,fun k e=>?_,fun k o hm=>?_⟩
 . change mG w.heap.size A'.L k=some r at e
   show aside B.L w.heap.size A'.L k=some .tmp
   by_cases Z:k<w.heap.size
   . rw[tZ Z,g.lab k Z] at e
     rw[iy Z];exact h.ab k r e hr
   . exact Af (by omega) (BJ (by omega) e).1 hr
 . change aside B.L w.heap.size A'.L k=some r at e
   show mG w.heap.size A'.L k=some .tmp
   by_cases Z:k<w.heap.size
   . rw[iy Z] at e
     rw[tZ Z,g.lab k Z];exact h.ba k r e hr
   . exact absurd (Ag (by omega) e) hr
 . change mG w.heap.size A'.L k=some .tmp at e
   show (∃ r,aside B.L w.heap.size A'.L k=some r∧r≠.tmp)∨_
   by_cases Z:k<w.heap.size
   . rw[tZ Z,g.lab k Z] at e
     rw[iy Z];exact h.at_ k e
   . exact absurd rfl (BJ (by omega) e).2
 . change aside B.L w.heap.size A'.L k=some .tmp at e
   show (∃ r,mG w.heap.size A'.L k=some r∧r≠.tmp)∨_
   by_cases Z:k<w.heap.size
   . rw[iy Z] at e
     rw[tZ Z,g.lab k Z];exact h.bt k e
   . rw[nG (by omega)] at e
     split at e
     . cases e
     . rename_i r hr e2
       exact .inl ⟨r,uf e2 (fun e3=>hr e3),fun e3=>hr e3⟩
     . cases e
 . obtain⟨e1,e2,e3⟩:=h.vr k o hm
   have Z:=fA e3;exact⟨(tZ Z).trans ((g.lab k Z).trans e1),(iy Z).trans e2,(g.keep k Z e1).trans e3⟩
theorem Two.below (h:Two A D B τ vs w) (hb:Below w.heap.size w E):Two A D B τ vs E:=⟨h.a.below hb,h.b.below hb,h.ab,h.ba,h.at_,h.bt,fun k o hm=>let ⟨e1,e2,e3⟩:=h.vr k o hm;⟨e1,e2,(hb.block k (fA e3)).trans e3⟩⟩
end
def KN (L:dE) (w:World) (ks:List Kept):Prop:=kz L w ks∧∀ b o,Kept.far b o ∉ ks
theorem KN.grow {L L':dE} {w E:World} {ks:List Kept} (g:Grow L w L' E) (h:KN L w ks):KN L' E ks:=⟨kz.grow g h.1,h.2⟩
theorem KN.soft {L L':dE} {w E:World} {ks:List Kept} (g:kE L w L' E) (h:KN L w ks):KN L' E ks:=⟨kz.soft g (fun b o hm=>absurd hm (h.2 b o)) h.1,h.2⟩
theorem KN.row {L:dE} {w:World} {ks:List Kept} {size:Nat} {v:Value} {xs:List Value} (f:dS L w size v xs) (h:KN L w ks):KN L w (.row size v xs::ks):=⟨⟨f,h.1⟩,fun b p hm=>by rcases List.mem_cons.1 hm with e|hm;cases e;exact h.2 b p hm⟩
theorem KN.nil {L:dE} {w:World}:KN L w []:=⟨trivial,fun _ _ h=>by cases h⟩
structure E2 (H ce:Nat) (w0:World) (ks:List Kept) (vs:List (Nat×Obj)) (D τ:St) (w:World):Prop where
 ex:∃ A B:au,A.H=H∧B.H=ce∧Two A D B τ vs w∧Grow (fun _=>none) w0 A.L w∧Grow (fun _=>none) w0 B.L w∧KN A.L w ks∧KN B.L w ks
section
variable {H ce:Nat} {w0 w E:World} {ks:List Kept} {vs:List (Nat×Obj)} {D τ:St}
theorem E2.symm (h:E2 H ce w0 ks vs D τ w):E2 ce H w0 ks vs τ D w:=let ⟨A,B,e1,e2,t,g1,g2,k1,k2⟩:=h.ex;⟨B,A,e2,e1,t.symm,g2,g1,k2,k1⟩
theorem E2.toBelow (h:E2 H ce w0 ks vs D τ w):Below w0.heap.size w0 w:=let ⟨_,_,_,_,_,g,_⟩:=h.ex;g.toBelow
theorem E2.below (h:E2 H ce w0 ks vs D τ w) (hb:Below w.heap.size w E):E2 H ce w0 ks vs D τ E:=
 let ⟨A,B,e1,e2,t,g1,g2,k1,k2⟩:=h.ex
 ⟨A,B,e1,e2,t.below hb,g1.trans (Grow.below hb),g2.trans (Grow.below hb),KN.grow (Grow.below hb) k1,KN.grow (Grow.below hb) k2⟩
theorem E2.drew (h:E2 H ce w0 ks vs D τ w):E2 H ce w0 ks vs D τ w.drew:=h.below (Below.refl _ _).drew
end
theorem UI {M:dE} {k:Nat} {r:bU} (e:mG 0 M k=some r):M k=some r∧r≠.tmp:=BJ (zz _) e
theorem RB {H ce k1 k2:Nat} {o1 o2:Obj} {w0 Y w2:World} {D τ:St} (q:rE H w0 [.obj k1 o1] D Y) (q2:∃ B:au,B.H=ce∧Live B τ w2∧Grow (fun _=>none) Y B.L w2∧B.L k2=some .tmp∧Y.heap.size<=k2∧w2.heap[k2]? =some o2) (ht:τ.aT=[]) (hc:∀ s,τ.calls.getD s none=none) (hs:τ.sw=none):E2 H ce w0 [.obj k1 o1,.obj k2 o2] [] D τ w2:=by
 obtain⟨A,ea,la,ga,⟨hk1,hk2⟩,-⟩:=q.ex;obtain⟨B,eb,lb,gb,hk3,hk4,hk5⟩:=q2;have hlt1:=fA hk2;have fa:=la.rep.mem.fresh;have fb:=lb.rep.mem.fresh;obtain⟨P,hP⟩:∃ P:dE,P=mG 0 A.L:=⟨_,rfl⟩
 obtain⟨Q,hQ⟩:∃ Q:dE,Q=mG 0 B.L:=⟨_,rfl⟩
 have la':Live (A.lab P) D Y:=la.LQ (fun b q e hq=>by rw[hP];exact uf e hq) (fun b e=>by rw[hP];exact eF e) (fun b hb=>by rw[hP];exact eF (fa b hb));have lb':Live (B.lab Q) τ w2:=lb.LQ (fun b q e hq=>by rw[hQ];exact uf e hq) (fun b e=>by rw[hQ];exact eF e) (fun b hb=>by rw[hQ];exact eF (fb b hb));have pt:∀ k r,P k=some r->r≠.tmp:=fun k r e=>by rw[hP] at e;exact (UI e).2
 have qt:∀ k r,Q k=some r->r≠.tmp:=fun k r e=>by rw[hQ] at e;exact (UI e).2
 have fq:∀ b,w2.heap.size<=b->Q b=none:=fun b hb=>by rw[hQ];exact eF (fb b hb)
 have hlow:∀ k,k<Y.heap.size->Q k=none:=fun k Z=>by rw[hQ];exact eF (gb.lab k Z)
 have p0:∀ b,b<w0.heap.size->P b=none:=fun b hb=>by rw[hP];exact eF (ga.lab b hb)
 have ho:Off P Y (aside P Y.heap.size Q) w2:=⟨gb.size,fun b hb _=>gb.block b hb rfl,fun b hb=>iy hb,fun b hb=>by rw[nG (gy gb.size hb),fq b hb]⟩
 obtain⟨M,hM⟩:∃ M:dE,M=fun k=>if k<Y.heap.size then (match P k with|some _=>some .tmp|none=>none) else Q k:=⟨_,rfl⟩
 have m1:∀ k,¬ k<Y.heap.size->M k=Q k:=fun k Z=>by rw[hM];exact aR Z
 have m2:∀ k,k<Y.heap.size->P k=none->M k=none:=fun k Z e=>by rw[hM];show (if k<Y.heap.size then _ else _)=_;rw[aV Z,e]
 have m3:∀ k r,k<Y.heap.size->P k=some r->M k=some .tmp:=fun k r Z e=>by
  rw[hM];show (if k<Y.heap.size then _ else _)=_;rw[aV Z,e]
 have m4:∀ k r,k<Y.heap.size->M k=some r->r=.tmp∧∃ q,P k=some q:=fun k r Z e=>by
  rw[hM] at e;change (if k<Y.heap.size then _ else _)=some r at e;rw[aV Z] at e
  split at e
  . rename_i q hq;exact⟨(zj e).symm,q,hq⟩
  . cases e
 have Zy : Live ((B.lab Q).lab M) τ w2 := lb'.D9 ht hc hs (fun b r e => by
   change Q b=some r at e
   rw[m1 b (fun Z=>by rw[hlow b Z] at e;cases e)];exact e) (fun b hb=>by rw[m1 b (by have:=gb.size;omega)];exact fq b hb)
 refine⟨(A.lab P).lab (aside P Y.heap.size Q),(B.lab Q).lab M,ea,eb,⟨la'.off ho,Zy,fun k r e hr=>?_,fun k r e hr=>?_,fun k e=>.inl ?_,fun k e=>.inl ?_,fun k o hm=>(by cases hm)⟩,⟨gb.os.trans ga.os,gb.tape.trans ga.tape,gb.output.trans ga.output,gy ga.size gb.size,fun b hb _=>(gb.block b (sG hb ga.size) rfl).trans (ga.block b hb rfl),fun b hb=>?_,fun b hb e=>(by cases e)⟩,⟨gb.os.trans ga.os,gb.tape.trans ga.tape,gb.output.trans ga.output,gy ga.size gb.size,fun b hb _=>(gb.block b (sG hb ga.size) rfl).trans (ga.block b hb rfl),fun b hb=>?_,fun b hb e=>(by cases e)⟩,⟨⟨⟨?_,?_⟩,⟨?_,hk5⟩,trivial⟩,fun b o hm=>(by simp at hm)⟩,⟨⟨⟨?_,?_⟩,⟨?_,hk5⟩,trivial⟩,fun b o hm=>(by simp at hm)⟩⟩
 . change aside P Y.heap.size Q k=some r at e
   by_cases Z:k<Y.heap.size
   . rw[iy Z] at e;exact m3 k r Z e
   . exact absurd (Ag (by omega) e) hr
 . change M k=some r at e
   show aside P Y.heap.size Q k=some .tmp
   by_cases Z:k<Y.heap.size
   . exact absurd (m4 k r Z e).1 hr
   . rw[m1 k Z] at e;exact Af (by omega) e hr
 . change aside P Y.heap.size Q k=some .tmp at e
   show ∃ r,M k=some r∧r≠.tmp
   by_cases Z:k<Y.heap.size
   . rw[iy Z] at e;exact absurd rfl (pt k _ e)
   . rw[nG (by omega)] at e
     split at e
     . cases e
     . rename_i r hr e2;exact⟨r,(m1 k Z).trans e2,qt k r e2⟩
     . cases e
 . change M k=some .tmp at e
   show ∃ r,aside P Y.heap.size Q k=some r∧r≠.tmp
   by_cases Z:k<Y.heap.size
   . obtain⟨-,q,hq⟩:=m4 k _ Z e
     exact⟨q,(iy Z).trans hq,pt k q hq⟩
   . rw[m1 k Z] at e;exact absurd rfl (qt k _ e)
 . exact (iy (sG hb ga.size)).trans (p0 b hb)
 . exact m2 b (sG hb ga.size) (p0 b hb)
 . exact (iy hlt1).trans (by rw[hP];exact eF hk1)
 . exact (gb.block k1 hlt1 rfl).trans hk2
 . show aside P Y.heap.size Q k2=none
   rw[nG hk4,show Q k2=none from by rw[hQ];unfold mG;rw[aR (Nat.not_lt_zero _),hk3]]
 . exact m2 k1 hlt1 (by rw[hP];exact eF hk1)
 . exact (gb.block k1 hlt1 rfl).trans hk2
 . show M k2=none
   rw[m1 k2 (by omega),hQ];unfold mG;rw[aR (Nat.not_lt_zero _),hk3]
theorem E2.row {H ce:Nat} {w0 w:World} {ks:List Kept} {vs:List (Nat×Obj)} {D τ:St} {size:Nat} {v:Value} {xs:List Value} (h:∃ A B:au,(A.H=H∧B.H=ce∧Two A D B τ vs w∧Grow (fun _=>none) w0 A.L w∧Grow (fun _=>none) w0 B.L w∧KN A.L w ks∧KN B.L w ks)∧dS A.L w size v xs):E2 H ce w0 (.row size v xs::ks) vs D τ w:=by
 obtain⟨A,B,⟨e1,e2,t,g1,g2,k1,k2⟩,f⟩:=h;refine⟨A,B,e1,e2,t,g1,g2,KN.row f k1,KN.row ?_ k2⟩;exact dS.soft f ⟨zr _,fun _ _ _=>rfl,fun b _ e=>t.none e⟩
theorem E2.LU {H ce:Nat} {w0 w:World} {ks:List Kept} {vs:List (Nat×Obj)} {D τ:St} (h:E2 H ce w0 ks vs D τ w) {f:FuncId} {args:Array Value} {bB:St} {be:Ending->Value->Prop} {size:Nat} {xs:List Value}
 (hc:∀ A,Live A D w->A.H=H->kz A.L w ks->zk f args w fun e E=>∃ A' vp,be e vp∧dS A'.L E size vp xs∧Live A' bB E∧Grow A.L w A'.L E∧A'.H=A.H):
 zk f args w fun e E=>∃ vp,be e vp∧E2 H ce w0 (.row size vp xs::ks) vs bB τ E:=by
 obtain⟨A,B,e1,e2,t,g1,g2,k1,k2⟩:=h.ex;refine (hc A t.a e1 k1.1).mono ?_;rintro e E ⟨A',vp,hR,hf,hL,g,eb⟩;have ho:=t.off hL g;have t':=t.left hL g;have sa:kE A.L w (mG w.heap.size A'.L) E:=⟨g.size,fun b hb e=>g.block b hb e,fun b hb e=>eF ((g.lab b hb).trans e)⟩
 have ga:=g1.trans g;have f1:dS (mG w.heap.size A'.L) E size vp xs:=dS.soft hf ⟨zr _,fun _ _ _=>rfl,fun b _ e=>eF e⟩;have f2:dS (aside B.L w.heap.size A'.L) E size vp xs:=dS.soft f1 ⟨zr _,fun _ _ _=>rfl,fun b _ e=>t'.none e⟩;refine⟨vp,hR,A'.lab (mG w.heap.size A'.L),B.lab (aside B.L w.heap.size A'.L),eb.trans e1,e2,t',⟨ga.os,ga.tape,ga.output,ga.size,ga.block,fun b hb=>eF (ga.lab b hb),fun b hb e=>(by cases e)⟩,⟨g.os.trans g2.os,g.tape.trans g2.tape,g.output.trans g2.output,gy g2.size g.size,fun b hb hn=>?_,fun b hb=>?_,fun b hb e=>(by cases e)⟩,KN.row f1 (KN.soft sa k1),KN.row f2 (KN.soft ho.soft k2)⟩
 . have hb':b<w.heap.size:=sG hb g2.size
   have hn2:B.L b=none:=g2.lab b hb;exact (ho.same b hb' (by rw[hn2];simp)).trans (g2.block b hb rfl)
 . have hb':b<w.heap.size:=sG hb g2.size
   exact (iy hb').trans (g2.lab b hb)
theorem E2.obj {H ce:Nat} {w0 w:World} {ks:List Kept} {vs:List (Nat×Obj)} {D τ:St} {k:Nat} {o:Obj} (h:E2 H ce w0 ks vs D τ w) (hm:.obj k o∈ks):w.heap[k]? =some o:=by
 obtain⟨A,B,e1,e2,t,g1,g2,⟨k1,kn⟩,k2⟩:=h.ex;clear h g1 g2 t k2 kn
 induction ks with
 |nil=>cases hm
 |cons x ks ih=>
  rcases List.mem_cons.1 hm with rfl|hm
  . exact k1.1.2
  . exact ih hm k1.2
theorem E2.rowOf {H ce:Nat} {w0 w:World} {ks:List Kept} {vs:List (Nat×Obj)} {D τ:St} {size:Nat} {v:Value} {xs:List Value} (h:E2 H ce w0 ks vs D τ w) (hm:.row size v xs∈ks):Ow.Row w 0 size v xs:=by
 obtain⟨A,B,e1,e2,t,g1,g2,⟨k1,kn⟩,k2⟩:=h.ex;have hf:dS A.L w size v xs:=by
  clear h g1 g2 t k2 kn
  induction ks with
  |nil=>cases hm
  |cons x ks ih=>
   rcases List.mem_cons.1 hm with rfl|hm
   . exact k1.1
   . exact ih hm k1.2
 obtain⟨ad,n,cap,rfl,h2,h3,h4,h5⟩:=hf;refine⟨ad,n,cap,rfl,h2,h3,h4,?_⟩
 rcases h5 with h5|⟨g,off,e1,e2,e3,e4⟩
 . exact .inl h5
 . exact .inr ⟨g,off,e1,zz _,e3,e4⟩
structure TV (A0:au) (w0:World) (fx vs:List (Nat×Obj)) (rs:List (Value×List Value)) (D:St) (w:World):Prop where
 ex:∃ A:au,A.H=A0.H∧Live A D w∧Grow A0.L w0 A.L w∧(∀ k o,(k,o)∈fx->Fix A.L w k o)∧(∀ k o,(k,o)∈vs->A.L k=some .tmp∧w.heap[k]? =some o∧w0.heap.size<=k)∧(∀ v xs,(v,xs)∈rs->dS A.L w 2 v xs)
section
variable {A0:au} {w0 w E:World} {fx vs:List (Nat×Obj)} {rs:List (Value×List Value)} {D aH:St}
theorem TV.start (hL:Live A0 D w0) {pl:Nat} {o:Obj} (hf:Fix A0.L w0 pl o):TV A0 w0 [(pl,o)] [] [] D w0:=
 ⟨A0,rfl,hL,Grow.refl _ _,fun k p hm=>(by simp at hm;obtain⟨rfl,rfl⟩:=hm;exact hf),fun k p hm=>(by cases hm),fun v xs hm=>(by cases hm)⟩
theorem TV.below (h:TV A0 w0 fx vs rs D w) (hb:Below w.heap.size w E):TV A0 w0 fx vs rs D E:=
 let ⟨A,e,l,g,f,v,r⟩:=h.ex
 ⟨A,e,l.below hb,g.trans (Grow.below hb),fun k o hm=>(f k o hm).grow (Grow.below hb),fun k o hm=>⟨(v k o hm).1,(hb.block k (fA (v k o hm).2.1)).trans (v k o hm).2.1,(v k o hm).2.2⟩,fun x xs hm=>(r x xs hm).grow (Grow.below hb)⟩
theorem TV.alloc (h:TV A0 w0 fx vs rs D w) (o:Obj):TV A0 w0 ((w.heap.size,o)::fx) vs rs D (w.alloc o):=by
 have h2:=h.below ((Below.refl _ w).alloc (zr _) o);obtain⟨A,e,l,g,f,v,r⟩:=h2.ex;obtain⟨A1,e1,l1,g1,f1,v1,r1⟩:=h.ex;refine⟨A1,e1,l1.alloc o,g1.trans (Grow.alloc _ _ _),fun k p hm=>?_,fun k p hm=>⟨(v1 k p hm).1,(Below.heap_alloc w o k (fA (v1 k p hm).2.1)).trans (v1 k p hm).2.1,(v1 k p hm).2.2⟩,fun x xs hm=>(r1 x xs hm).grow (Grow.alloc _ _ _)⟩
 rcases List.mem_cons.1 hm with h3|h3
 . obtain⟨rfl,rfl⟩:=Prod.mk.inj h3
   exact eP l1.rep.mem.fresh _ rfl
 . exact (f1 k p h3).grow (Grow.alloc _ _ _)
theorem TV.var (h:TV A0 w0 fx vs rs D w) (o:Obj):TV A0 w0 fx ((w.heap.size,o)::vs) rs D (w.alloc o):=by
 obtain⟨A,e,l,g,f,v,r⟩:=h.ex;obtain⟨_,g1,t1,t2⟩:=l.rep.rT o;refine⟨A.tmp w.heap.size,e,l.rT o,g.trans g1,fun k p hm=>(f k p hm).grow g1,fun k p hm=>?_,fun x xs hm=>(r x xs hm).grow g1⟩
 rcases List.mem_cons.1 hm with h3|h3
 . obtain⟨rfl,rfl⟩:=Prod.mk.inj h3
   exact⟨t1,t2,g.size⟩
 . obtain⟨h4,h5,h6⟩:=v k p h3
   obtain⟨h7,h8⟩:=dW ⟨h4,h5⟩ g1;exact⟨h7,h8,h6⟩
theorem TV.rF (h:TV A0 w0 fx vs rs D w) {k:Nat} {o:Obj} (hm:(k,o)∈fx):w.heap[k]? =some o:=let ⟨_,_,_,_,f,_,_⟩:=h.ex;(f k o hm).2
theorem TV.varOf (h:TV A0 w0 fx vs rs D w) {k:Nat} {o:Obj} (hm:(k,o)∈vs):w.heap[k]? =some o:=let ⟨_,_,_,_,_,v,_⟩:=h.ex;(v k o hm).2.1
theorem TV.rowOf (h:TV A0 w0 fx vs rs D w) {v:Value} {xs:List Value} (hm:(v,xs)∈rs):∃ a n c,v=.slice a n c:=let ⟨_,_,_,_,_,_,r⟩:=h.ex;uP (r v xs hm)
theorem TV.put {g:Nat} {o o':Obj} (h:TV A0 w0 fx ((g,o)::vs) rs D w) (hv:∀ p,(g,p) ∉ vs) (hb:But g w E) (ho:E.heap[g]? =some o'):TV A0 w0 fx ((g,o')::vs) rs D E:=by
 obtain⟨A,e,l,gr,f,v,r⟩:=h.ex;obtain⟨la,lo,lg⟩:=v g o nK;refine⟨A,e,l.but la hb,gr.but lg hb,fun k p hm=>(f k p hm).but la hb,fun k p hm=>?_,fun x xs hm=>(r x xs hm).but la hb⟩
 rcases List.mem_cons.1 hm with h3|h3
 . obtain⟨rfl,rfl⟩:=Prod.mk.inj h3
   exact⟨la,ho,lg⟩
 . obtain⟨h4,h5,h6⟩:=v k p (qg _ h3)
   exact⟨h4,(hb.block k (fun e=>hv p (e ▸ h3))).trans h5,h6⟩
theorem TV.set {g:Nat} {cs:Array Value} {T:TypeId} (h:TV A0 w0 fx ((g,.cells cs T)::vs) rs D w) (hv:∀ p,(g,p) ∉ vs) (i:Nat) (v:Value):TV A0 w0 fx ((g,.cells (cs.setIfInBounds i v) T)::vs) rs D (w.setCell (J g i) v):=
 h.put hv (But.setCell w (J g i) v) (heap_setCell_same (h.varOf nK) i v)
theorem TV.swap {p q:Nat×Obj} (h:TV A0 w0 fx (p::q::vs) rs D w):TV A0 w0 fx (q::p::vs) rs D w:=by
 obtain⟨A,e,l,g,f,v,r⟩:=h.ex;refine⟨A,e,l,g,f,fun k o hm=>v k o ?_,r⟩;simp only[List.mem_cons] at hm ⊢
 rcases hm with h1|h1|h1
 . exact .inr (.inl h1)
 . exact .inl h1
 . exact .inr (.inr h1)
theorem TV.call (h:TV A0 w0 fx vs rs D w) {fn:FuncId} {args:Array Value} {be:Ending->Prop}
 (hc:∀ A,Live A D w->A.H=A0.H->zk fn args w fun e E=>be e∧∃ A',Live A' aH E∧Grow A.L w A'.L E∧A'.H=A.H):
 zk fn args w fun e E=>be e∧TV A0 w0 fx vs rs aH E:=by
 obtain⟨A,e,l,g,f,v,r⟩:=h.ex;refine (hc A l e).mono ?_;rintro x E ⟨hR,A',l',g',e'⟩;refine⟨hR,A',e'.trans e,l',g.trans g',fun k o hm=>(f k o hm).grow g',fun k o hm=>?_,fun x xs hm=>(r x xs hm).grow g'⟩;obtain⟨h4,h5,h6⟩:=v k o hm;obtain⟨h7,h8⟩:=dW ⟨h4,h5⟩ g';exact⟨h7,h8,h6⟩
theorem TV.Pj (h:TV A0 w0 fx vs rs D w) {fn:FuncId} {args:Array Value} {be:Ending->Value->Prop} {xs:List Value}
 (hc:∀ A,Live A D w->A.H=A0.H->zk fn args w fun e E=>∃ A' vp,be e vp∧dS A'.L E 2 vp xs∧Live A' aH E∧Grow A.L w A'.L E∧A'.H=A.H):
 zk fn args w fun e E=>∃ vp,be e vp∧TV A0 w0 fx vs ((vp,xs)::rs) aH E:=by
 obtain⟨A,e,l,g,f,v,r⟩:=h.ex;refine (hc A l e).mono ?_;rintro x E ⟨A',vp,hR,hf,l',g',e'⟩;refine⟨vp,hR,A',e'.trans e,l',g.trans g',fun k o hm=>(f k o hm).grow g',fun k o hm=>?_,fun x xs hm=>?_⟩
 . obtain⟨h4,h5,h6⟩:=v k o hm
   obtain⟨h7,h8⟩:=dW ⟨h4,h5⟩ g';exact⟨h7,h8,h6⟩
 . rcases List.mem_cons.1 hm with h3|h3
   . obtain⟨rfl,rfl⟩:=Prod.mk.inj h3
     exact hf
   . exact (r _ _ h3).grow g'
end
def vP (A0:au) (w0:World) (aH:St) (er id kd re rv rn ro:Int) (ps:List (Nat×Nat)):Ending->World->Prop:=fun x E=>
 ∃ A' vp,x=.returned (.agg #[I er,I id,I kd,I re,I rv,vp,I rn,I ro])∧dS A'.L E 2 vp (bJ ps)∧Live A' aH E∧Grow A0.L w0 A'.L E∧A'.H=A0.H
theorem TV.UJ {A0:au} {w0 w:World} {fx vs:List (Nat×Obj)} {rs:List (Value×List Value)} {D:St} {vp:Value} {er id kd re rv rn ro:Int} {ps:List (Nat×Nat)} (h:TV A0 w0 fx vs ((vp,bJ ps)::rs) D w):
 vP A0 w0 D er id kd re rv rn ro ps (.returned (.agg #[I er,I id,I kd,I re,I rv,vp,I rn,I ro])) w:=by
 obtain⟨A,e,l,g,f,v,r⟩:=h.ex;exact⟨A,vp,rfl,r _ _ nK,l,g,e⟩
theorem TV.none {A0:au} {w0 w:World} {fx vs:List (Nat×Obj)} {rs:List (Value×List Value)} {D:St} (h:TV A0 w0 fx vs rs D w):TV A0 w0 fx vs ((.slice none 0 0,bJ [])::rs) D w:=by
 obtain⟨A,e,l,g,f,v,r⟩:=h.ex;refine⟨A,e,l,g,f,v,fun x xs hm=>?_⟩
 rcases List.mem_cons.1 hm with h3|h3
 . obtain⟨rfl,rfl⟩:=Prod.mk.inj h3
   exact dS.nil _ _ _
 . exact r x xs h3
theorem xN {w:World} {b:Nat} {a0 a1 a2 a3 a4 a5 a6 a7:Value} {T:TypeId} (h:w.heap[b]? =some (.cells #[a0,a1,a2,a3,a4,a5,a6,a7] T)) (v0 v1 v2 v3 v4 v5 v6 v7:Value):(w.setCells b 0 [v0,v1,v2,v3,v4,v5,v6,v7]).heap[b]? =some (.cells #[v0,v1,v2,v3,v4,v5,v6,v7] T):=by
 have h1:=heap_setCell_same h 0 v0;have h2:=heap_setCell_same h1 1 v1;have h3:=heap_setCell_same h2 2 v2;have h4:=heap_setCell_same h3 3 v3;have h5:=heap_setCell_same h4 4 v4;have h6:=heap_setCell_same h5 5 v5;have h7:=heap_setCell_same h6 6 v6;have h8:=heap_setCell_same h7 7 v7;exact h8
theorem ay {w:World} {b:Nat} {cs:Array Value} {T:TypeId} (h:w.heap[b]? =some (.cells cs T)) (i:Nat) {v:Value} (hv:cs[i]? =some v):w.cell? (J b i)=some v∧w.frozen? (J b i)=false:=by
 refine⟨?_,by simp[World.frozen?,h]⟩;rw[cell_of_row w b i _ _ _ h];exact hv
section
variable {w:World} {b g h:Nat} {p v a0 a1 a2 a3 a4 a5 a6 c0 c1 c2 c3 c4 c5 c6 c7:Value} {T U:TypeId}
theorem LV (h1:w.cell? (J b 0)=some p) (h2:w.heap[g]? =some (.cells #[a0,a1,a2,a3,a4,a5,a6] T)):w.cell? (J b 0)=some p∧w.cell? (J g 0)=some a0∧w.cell? (J g 1)=some a1∧w.cell? (J g 2)=some a2∧w.cell? (J g 3)=some a3∧w.cell? (J g 4)=some a4∧w.cell? (J g 5)=some a5∧w.cell? (J g 6)=some a6:=
 ⟨h1,(ay h2 0 rfl).1,(ay h2 1 rfl).1,(ay h2 2 rfl).1,(ay h2 3 rfl).1,(ay h2 4 rfl).1,(ay h2 5 rfl).1,(ay h2 6 rfl).1⟩
end
end Go.Proofs.YthicolbbmjfkfaaGreat.Em
