import Derived.Test.YthicolbbmjfkfaaGreatQp21
namespace Go.Proofs.YthicolbbmjfkfaaGreat.Em
open Go.ChangeShapes Go.WideShapes Go.ChangeAt Go.RowKit En
set_option linter.unusedVariables false
set_option linter.unusedSimpArgs false
set_option maxRecDepth 100000
set_option maxHeartbeats 1600000
def Book.lab (A:Book) (L:Lab):Book:={A with L:=L}
theorem mem_labO (A:Book) (σ:St) (L:Lab) (q:Role):memOf (A.lab L) σ q=memOf A σ q:=by cases q<;>rfl
structure Off (L:Lab) (w:World) (L':Lab) (w':World):Prop where
 size:w.heap.size≤w'.heap.size
 same:∀ b,b<w.heap.size→L b≠some .tmp→w'.heap[b]? =w.heap[b]?
 lab:∀ b,b<w.heap.size→L' b=L b
 fresh:∀ b,w'.heap.size≤b→L' b=none
section
variable {A B:Book} {σ τ:St} {w w':World} {L L':Lab}
theorem Off.soft (h:Off L w L' w'):Soft L w L' w':=⟨h.size,fun b hb e=>h.same b hb (by rw[e];simp),fun b hb e=>(h.lab b hb).trans e⟩
theorem Rep.off (hR:Rep A σ w) (h:Off A.L w L' w'):Rep (A.lab L') σ w':=by
 refine⟨⟨fun r=>?_,h.fresh⟩,hR.ev.soft h.soft,hR.sl,hR.nw,hR.nt,hR.nv,hR.n8,hR.nc⟩;rw[mem_labO]
 by_cases hr:r=.tmp
 · subst hr;trivial
 · exact (hR.mem.all r).frame (fun k hk hk'=>h.same k hk (by rw[hk'];intro e;exact hr (Option.some.inj e))) h.lab
theorem Live.off (hL:Live A σ w) (h:Off A.L w L' w'):Live (A.lab L') σ w':=
 ⟨hL.rep.off h,hL.mp,hL.mt,fun s hs c hc=>let ⟨e1,k,e2,e3⟩:=hL.call s hs c hc;⟨e1,k,e2,(show KRep (kp A σ s) (A.lab L').L w' (A.vnext s) k from e3.soft h.soft)⟩,hL.idle,hL.sx.soft rfl h.soft⟩
end
theorem Entry.Holds.relab {L L':Lab} {w:World} {r:Role} {e:Entry} (h:e.Holds L w r) (hl:∀ b,L b=some r→L' b=some r):e.Holds L' w r:=by
 cases e with
 |none=>trivial
 |obj b cs T=>exact⟨hl _ h.1,h.2⟩
 |map b es c=>exact⟨hl _ h.1,h.2⟩
 |own v e size n xs=>exact⟨h.1,fun g hg=>hl _ (h.2 g hg)⟩
theorem Live.relab {B:Book} {τ:St} {w:World} {L':Lab} (hL:Live B τ w) (ht:τ.tale=[]) (hc:∀ s,τ.calls.getD s none=none) (hs:τ.sw=none) (hl:∀ b q,B.L b=some q→L' b=some q) (hf:∀ b,w.heap.size≤b→L' b=none):Live (B.lab L') τ w:=by
 refine⟨⟨⟨fun r=>?_,hf⟩,?_,hL.rep.sl,hL.rep.nw,hL.rep.nt,hL.rep.nv,hL.rep.n8,hL.rep.nc⟩,hL.mp,hL.mt,fun s h c e=>(by rw[hc s] at e;cases e),hL.idle,⟨?_,hL.sx.cu⟩⟩
 · rw[mem_labO]
   exact (hL.rep.mem.all r).relab (fun b e=>hl b r e)
 · have h:=hL.rep.ev
   rw[ht] at h ⊢;exact h
 · have h:=hL.sx.sw
   rw[hs] at h ⊢;exact h
theorem Live.untmp {A:Book} {σ:St} {w:World} {L':Lab} (hL:Live A σ w) (h1:∀ b q,A.L b=some q→q≠.tmp→L' b=some q) (h0:∀ b,A.L b=none→L' b=none) (hf:∀ b,w.heap.size≤b→L' b=none):Live (A.lab L') σ w:=by
 have sf:Soft A.L w (A.lab L').L w:=⟨Nat.le_refl _,fun _ _ _=>rfl,fun b _ e=>h0 b e⟩
 refine⟨⟨⟨fun r=>?_,hf⟩,hL.rep.ev.soft sf,hL.rep.sl,hL.rep.nw,hL.rep.nt,hL.rep.nv,hL.rep.n8,hL.rep.nc⟩,hL.mp,hL.mt,fun s hs c hc=>let ⟨e1,k,e2,e3⟩:=hL.call s hs c hc;⟨e1,k,e2,(show KRep (kp A σ s) (A.lab L').L w (A.vnext s) k from e3.soft sf)⟩,hL.idle,hL.sx.soft rfl sf⟩;rw[mem_labO]
 by_cases hr:r=.tmp
 · subst hr;trivial
 · exact (hL.rep.mem.all r).relab (fun b e=>h1 b r e hr)
def own1 (n:Nat) (M:Lab):Lab:=fun k=>if k<n then M k else match M k with|some .tmp=>none|x=>x
theorem own1_lt {M:Lab} {n k:Nat} (h:k<n):own1 n M k=M k:=if_pos h
theorem own1_own {M:Lab} {n k:Nat} {r:Role} (e:M k=some r) (hr:r≠.tmp):own1 n M k=some r:=by
 unfold own1;rw[e]
 split
 · rfl
 · cases r<;>first|rfl|exact absurd rfl hr
theorem own1_none {M:Lab} {n k:Nat} (e:M k=none):own1 n M k=none:=by unfold own1;rw[e];split<;>rfl
theorem own1_ge {M:Lab} {n k:Nat} {r:Role} (h:n≤k) (e:own1 n M k=some r):M k=some r∧r≠.tmp:=by
 unfold own1 at e;rw[if_neg (by omega)] at e
 split at e
 · cases e
 · rename_i x
   exact⟨e,by rintro rfl;exact x e⟩
section
variable {A B:Book} {σ τ:St} {w w':World} {L L':Lab} {vs:List (Nat×Obj)}
structure Two (A:Book) (σ:St) (B:Book) (τ:St) (vs:List (Nat×Obj)) (w:World):Prop where
 a:Live A σ w
 b:Live B τ w
 ab:∀ k r,A.L k=some r→r≠.tmp→B.L k=some .tmp
 ba:∀ k r,B.L k=some r→r≠.tmp→A.L k=some .tmp
 at_:∀ k,A.L k=some .tmp→(∃ r,B.L k=some r∧r≠.tmp)∨∃ o,(k,o)∈vs
 bt:∀ k,B.L k=some .tmp→(∃ r,A.L k=some r∧r≠.tmp)∨∃ o,(k,o)∈vs
 vr:∀ k o,(k,o)∈vs→A.L k=some .tmp∧B.L k=some .tmp∧w.heap[k]? =some o
theorem Two.symm (h:Two A σ B τ vs w):Two B τ A σ vs w:=⟨h.b,h.a,h.ba,h.ab,h.bt,h.at_,fun k o hm=>⟨(h.vr k o hm).2.1,(h.vr k o hm).1,(h.vr k o hm).2.2⟩⟩
theorem Two.none (h:Two A σ B τ vs w) {k:Nat} (e:A.L k=none):B.L k=none:=by
 cases e2:B.L k with
 |none=>rfl
 |some r=>
  by_cases hr:r=.tmp
  · subst hr
    rcases h.bt k e2 with ⟨q,e3,_⟩|⟨o,ho⟩
    · rw[e] at e3;cases e3
    · have:=(h.vr k o ho).1;rw[e] at this;cases this
  · have:=h.ba k r e2 hr
    rw[e] at this;cases this
def aside (L:Lab) (n:Nat) (M:Lab):Lab:=fun k=>if k<n then L k else match M k with|some .tmp=>none|some _=>some .tmp|none=>none
theorem aside_lt {M:Lab} {n k:Nat} (h:k<n):aside L n M k=L k:=if_pos h
theorem aside_ge {M:Lab} {n k:Nat} (h:n≤k):aside L n M k=match M k with|some .tmp=>none|some _=>some .tmp|none=>none:=if_neg (by omega)
theorem aside_own {M:Lab} {n k:Nat} {r:Role} (h:n≤k) (e:M k=some r) (hr:r≠.tmp):aside L n M k=some .tmp:=by
 rw[aside_ge h,e]
 cases r<;>first|rfl|exact absurd rfl hr
theorem aside_tmp {M:Lab} {n k:Nat} {r:Role} (h:n≤k) (e:aside L n M k=some r):r=.tmp:=by
 rw[aside_ge h] at e
 split at e
 · cases e
 · exact (Option.some.inj e).symm
 · cases e
theorem Two.off (h:Two A σ B τ vs w) {A':Book} {σ':St} (hL:Live A' σ' w') (g:Grow A.L w A'.L w'):Off B.L w (aside B.L w.heap.size A'.L) w':=by
 refine⟨g.size,fun b hb hn=>?_,fun b hb=>aside_lt hb,fun b hb=>?_⟩
 · cases e:A.L b with
   |none=>exact g.block b hb e
   |some r=>
    by_cases hr:r=.tmp
    · subst hr;exact g.keep b hb e
    · exact absurd (h.ab b r e hr) hn
 · have hb':w.heap.size≤b:=Nat.le_trans g.size hb
   rw[aside_ge hb',hL.rep.mem.fresh b hb]
theorem Two.left (h:Two A σ B τ vs w) {A':Book} {σ':St} (hL:Live A' σ' w') (g:Grow A.L w A'.L w'):Two (A'.lab (own1 w.heap.size A'.L)) σ' (B.lab (aside B.L w.heap.size A'.L)) τ vs w':=by
 have hf:=hL.rep.mem.fresh;refine⟨hL.untmp (fun b q e hq=>own1_own e hq) (fun b e=>own1_none e) (fun b hb=>own1_none (hf b hb)),h.b.off (h.off hL g),fun k r e hr=>?_,fun k r e hr=>?_,fun k e=>?_,fun k e=>?_,fun k o hm=>?_⟩
 · change own1 w.heap.size A'.L k=some r at e
   show aside B.L w.heap.size A'.L k=some .tmp
   by_cases hk:k<w.heap.size
   · rw[own1_lt hk,g.lab k hk] at e
     rw[aside_lt hk];exact h.ab k r e hr
   · exact aside_own (by omega) (own1_ge (by omega) e).1 hr
 · change aside B.L w.heap.size A'.L k=some r at e
   show own1 w.heap.size A'.L k=some .tmp
   by_cases hk:k<w.heap.size
   · rw[aside_lt hk] at e
     rw[own1_lt hk,g.lab k hk];exact h.ba k r e hr
   · exact absurd (aside_tmp (by omega) e) hr
 · change own1 w.heap.size A'.L k=some .tmp at e
   show (∃ r,aside B.L w.heap.size A'.L k=some r∧r≠.tmp)∨_
   by_cases hk:k<w.heap.size
   · rw[own1_lt hk,g.lab k hk] at e
     rw[aside_lt hk];exact h.at_ k e
   · exact absurd rfl (own1_ge (by omega) e).2
 · change aside B.L w.heap.size A'.L k=some .tmp at e
   show (∃ r,own1 w.heap.size A'.L k=some r∧r≠.tmp)∨_
   by_cases hk:k<w.heap.size
   · rw[aside_lt hk] at e
     rw[own1_lt hk,g.lab k hk];exact h.bt k e
   · rw[aside_ge (by omega)] at e
     split at e
     · cases e
     · rename_i r hr e2
       exact .inl ⟨r,own1_own e2 (fun e3=>hr e3),fun e3=>hr e3⟩
     · cases e
 · obtain⟨e1,e2,e3⟩:=h.vr k o hm
   have hk:=lt_of e3;exact⟨(own1_lt hk).trans ((g.lab k hk).trans e1),(aside_lt hk).trans e2,(g.keep k hk e1).trans e3⟩
theorem Two.below (h:Two A σ B τ vs w) (hb:Below w.heap.size w w'):Two A σ B τ vs w':=⟨h.a.below hb,h.b.below hb,h.ab,h.ba,h.at_,h.bt,fun k o hm=>let ⟨e1,e2,e3⟩:=h.vr k o hm;⟨e1,e2,(hb.block k (lt_of e3)).trans e3⟩⟩
end
def KN (L:Lab) (w:World) (ks:List Kept):Prop:=Kepts L w ks∧∀ b o,Kept.far b o ∉ ks
theorem KN.grow {L L':Lab} {w w':World} {ks:List Kept} (g:Grow L w L' w') (h:KN L w ks):KN L' w' ks:=⟨Kepts.grow g h.1,h.2⟩
theorem KN.soft {L L':Lab} {w w':World} {ks:List Kept} (g:Soft L w L' w') (h:KN L w ks):KN L' w' ks:=⟨Kepts.soft g (fun b o hm=>absurd hm (h.2 b o)) h.1,h.2⟩
theorem KN.obj {L:Lab} {w:World} {ks:List Kept} {k:Nat} {o:Obj} (f:Fix L w k o) (h:KN L w ks):KN L w (.obj k o::ks):=⟨⟨f,h.1⟩,fun b p hm=>by rcases List.mem_cons.1 hm with e|hm;cases e;exact h.2 b p hm⟩
theorem KN.row {L:Lab} {w:World} {ks:List Kept} {size:Nat} {v:Value} {xs:List Value} (f:FRow L w size v xs) (h:KN L w ks):KN L w (.row size v xs::ks):=⟨⟨f,h.1⟩,fun b p hm=>by rcases List.mem_cons.1 hm with e|hm;cases e;exact h.2 b p hm⟩
structure E2 (be ce:Nat) (w0:World) (ks:List Kept) (vs:List (Nat×Obj)) (σ τ:St) (w:World):Prop where
 ex:∃ A B:Book,A.be=be∧B.be=ce∧Two A σ B τ vs w∧Grow (fun _=>none) w0 A.L w∧Grow (fun _=>none) w0 B.L w∧KN A.L w ks∧KN B.L w ks
section
variable {be ce:Nat} {w0 w w':World} {ks:List Kept} {vs:List (Nat×Obj)} {σ τ:St}
theorem E2.symm (h:E2 be ce w0 ks vs σ τ w):E2 ce be w0 ks vs τ σ w:=let ⟨A,B,e1,e2,t,g1,g2,k1,k2⟩:=h.ex;⟨B,A,e2,e1,t.symm,g2,g1,k2,k1⟩
theorem E2.toBelow (h:E2 be ce w0 ks vs σ τ w):Below w0.heap.size w0 w:=let ⟨_,_,_,_,_,g,_⟩:=h.ex;g.toBelow
theorem E2.below (h:E2 be ce w0 ks vs σ τ w) (hb:Below w.heap.size w w'):E2 be ce w0 ks vs σ τ w':=
 let ⟨A,B,e1,e2,t,g1,g2,k1,k2⟩:=h.ex
 ⟨A,B,e1,e2,t.below hb,g1.trans (Grow.below hb),g2.trans (Grow.below hb),KN.grow (Grow.below hb) k1,KN.grow (Grow.below hb) k2⟩
theorem E2.drew (h:E2 be ce w0 ks vs σ τ w):E2 be ce w0 ks vs σ τ w.drew:=h.below (Below.refl _ _).drew
theorem E2.alloc (h:E2 be ce w0 ks vs σ τ w) (o:Obj):E2 be ce w0 (.obj w.heap.size o::ks) vs σ τ (w.alloc o):=
 let ⟨A,B,e1,e2,t,g1,g2,k1,k2⟩:=h.ex
 ⟨A,B,e1,e2,t.below ((Below.refl _ w).alloc (Nat.le_refl _) o),g1.trans (Grow.alloc _ _ _),g2.trans (Grow.alloc _ _ _),KN.obj (fix_next t.a.rep.mem.fresh _ rfl) (KN.grow (Grow.alloc _ _ _) k1),KN.obj (fix_next t.b.rep.mem.fresh _ rfl) (KN.grow (Grow.alloc _ _ _) k2)⟩
theorem E2.left (h:E2 be ce w0 ks vs σ τ w) {f:FuncId} {args:Array Value} {σ':St} {R:Ending→Prop}
 (hc:∀ A,Live A σ w→A.be=be→Calls Tryz.prog f args w fun e w'=>R e∧∃ A',Live A' σ' w'∧Grow A.L w A'.L w'∧A'.be=A.be):
 Calls Tryz.prog f args w fun e w'=>R e∧E2 be ce w0 ks vs σ' τ w':=by
 obtain⟨A,B,e1,e2,t,g1,g2,k1,k2⟩:=h.ex;refine (hc A t.a e1).mono ?_;rintro e w' ⟨hR,A',hL,g,eb⟩;have ho:=t.off hL g;have sa:Soft A.L w (own1 w.heap.size A'.L) w':=⟨g.size,fun b hb e=>g.block b hb e,fun b hb e=>own1_none ((g.lab b hb).trans e)⟩
 have ga:=g1.trans g;refine⟨hR,A'.lab (own1 w.heap.size A'.L),B.lab (aside B.L w.heap.size A'.L),eb.trans e1,e2,t.left hL g,⟨ga.os,ga.tape,ga.output,ga.size,ga.block,fun b hb=>own1_none (ga.lab b hb),fun b hb e=>(by cases e)⟩,⟨g.os.trans g2.os,g.tape.trans g2.tape,g.output.trans g2.output,Nat.le_trans g2.size g.size,fun b hb hn=>?_,fun b hb=>?_,fun b hb e=>(by cases e)⟩,KN.soft sa k1,KN.soft ho.soft k2⟩
 · have hb':b<w.heap.size:=Nat.lt_of_lt_of_le hb g2.size
   have hn2:B.L b=none:=g2.lab b hb;exact (ho.same b hb' (by rw[hn2];simp)).trans (g2.block b hb rfl)
 · have hb':b<w.heap.size:=Nat.lt_of_lt_of_le hb g2.size
   exact (aside_lt hb').trans (g2.lab b hb)
end
theorem own0 {M:Lab} {k:Nat} {r:Role} (e:own1 0 M k=some r):M k=some r∧r≠.tmp:=own1_ge (Nat.zero_le _) e
theorem e2_new {be ce k1 k2:Nat} {o1 o2:Obj} {w0 w1 w2:World} {σ τ:St} (q:EKt be w0 [.obj k1 o1] σ w1) (q2:∃ B:Book,B.be=ce∧Live B τ w2∧Grow (fun _=>none) w1 B.L w2∧B.L k2=some .tmp∧w1.heap.size≤k2∧w2.heap[k2]? =some o2) (ht:τ.tale=[]) (hc:∀ s,τ.calls.getD s none=none) (hs:τ.sw=none):E2 be ce w0 [.obj k1 o1,.obj k2 o2] [] σ τ w2:=by
 obtain⟨A,ea,la,ga,⟨hk1,hk2⟩,-⟩:=q.ex;obtain⟨B,eb,lb,gb,hk3,hk4,hk5⟩:=q2;have hlt1:=lt_of hk2;have fa:=la.rep.mem.fresh;have fb:=lb.rep.mem.fresh;obtain⟨P,hP⟩:∃ P:Lab,P=own1 0 A.L:=⟨_,rfl⟩
 obtain⟨Q,hQ⟩:∃ Q:Lab,Q=own1 0 B.L:=⟨_,rfl⟩
 have la':Live (A.lab P) σ w1:=la.untmp (fun b q e hq=>by rw[hP];exact own1_own e hq) (fun b e=>by rw[hP];exact own1_none e) (fun b hb=>by rw[hP];exact own1_none (fa b hb));have lb':Live (B.lab Q) τ w2:=lb.untmp (fun b q e hq=>by rw[hQ];exact own1_own e hq) (fun b e=>by rw[hQ];exact own1_none e) (fun b hb=>by rw[hQ];exact own1_none (fb b hb));have pt:∀ k r,P k=some r→r≠.tmp:=fun k r e=>by rw[hP] at e;exact (own0 e).2
 have qt:∀ k r,Q k=some r→r≠.tmp:=fun k r e=>by rw[hQ] at e;exact (own0 e).2
 have fq:∀ b,w2.heap.size≤b→Q b=none:=fun b hb=>by rw[hQ];exact own1_none (fb b hb)
 have hlow:∀ k,k<w1.heap.size→Q k=none:=fun k hk=>by rw[hQ];exact own1_none (gb.lab k hk)
 have p0:∀ b,b<w0.heap.size→P b=none:=fun b hb=>by rw[hP];exact own1_none (ga.lab b hb)
 have ho:Off P w1 (aside P w1.heap.size Q) w2:=⟨gb.size,fun b hb _=>gb.block b hb rfl,fun b hb=>aside_lt hb,fun b hb=>by rw[aside_ge (Nat.le_trans gb.size hb),fq b hb]⟩
 obtain⟨M,hM⟩:∃ M:Lab,M=fun k=>if k<w1.heap.size then (match P k with|some _=>some .tmp|none=>none) else Q k:=⟨_,rfl⟩
 have m1:∀ k,¬ k<w1.heap.size→M k=Q k:=fun k hk=>by rw[hM];exact if_neg hk
 have m2:∀ k,k<w1.heap.size→P k=none→M k=none:=fun k hk e=>by rw[hM];show (if k<w1.heap.size then _ else _)=_;rw[if_pos hk,e]
 have m3:∀ k r,k<w1.heap.size→P k=some r→M k=some .tmp:=fun k r hk e=>by
  rw[hM];show (if k<w1.heap.size then _ else _)=_;rw[if_pos hk,e]
 have m4:∀ k r,k<w1.heap.size→M k=some r→r=.tmp∧∃ q,P k=some q:=fun k r hk e=>by
  rw[hM] at e;change (if k<w1.heap.size then _ else _)=some r at e;rw[if_pos hk] at e
  split at e
  · rename_i q hq;exact⟨(Option.some.inj e).symm,q,hq⟩
  · cases e
 have lb2 : Live ((B.lab Q).lab M) τ w2 := lb'.relab ht hc hs (fun b r e => by
   change Q b=some r at e
   rw[m1 b (fun hk=>by rw[hlow b hk] at e;cases e)];exact e) (fun b hb=>by rw[m1 b (by have:=gb.size;omega)];exact fq b hb)
 refine⟨(A.lab P).lab (aside P w1.heap.size Q),(B.lab Q).lab M,ea,eb,⟨la'.off ho,lb2,fun k r e hr=>?_,fun k r e hr=>?_,fun k e=>.inl ?_,fun k e=>.inl ?_,fun k o hm=>(by cases hm)⟩,⟨gb.os.trans ga.os,gb.tape.trans ga.tape,gb.output.trans ga.output,Nat.le_trans ga.size gb.size,fun b hb _=>(gb.block b (Nat.lt_of_lt_of_le hb ga.size) rfl).trans (ga.block b hb rfl),fun b hb=>?_,fun b hb e=>(by cases e)⟩,⟨gb.os.trans ga.os,gb.tape.trans ga.tape,gb.output.trans ga.output,Nat.le_trans ga.size gb.size,fun b hb _=>(gb.block b (Nat.lt_of_lt_of_le hb ga.size) rfl).trans (ga.block b hb rfl),fun b hb=>?_,fun b hb e=>(by cases e)⟩,⟨⟨⟨?_,?_⟩,⟨?_,hk5⟩,trivial⟩,fun b o hm=>(by simp at hm)⟩,⟨⟨⟨?_,?_⟩,⟨?_,hk5⟩,trivial⟩,fun b o hm=>(by simp at hm)⟩⟩
 · change aside P w1.heap.size Q k=some r at e
   by_cases hk:k<w1.heap.size
   · rw[aside_lt hk] at e;exact m3 k r hk e
   · exact absurd (aside_tmp (by omega) e) hr
 · change M k=some r at e
   show aside P w1.heap.size Q k=some .tmp
   by_cases hk:k<w1.heap.size
   · exact absurd (m4 k r hk e).1 hr
   · rw[m1 k hk] at e;exact aside_own (by omega) e hr
 · change aside P w1.heap.size Q k=some .tmp at e
   show ∃ r,M k=some r∧r≠.tmp
   by_cases hk:k<w1.heap.size
   · rw[aside_lt hk] at e;exact absurd rfl (pt k _ e)
   · rw[aside_ge (by omega)] at e
     split at e
     · cases e
     · rename_i r hr e2;exact⟨r,(m1 k hk).trans e2,qt k r e2⟩
     · cases e
 · change M k=some .tmp at e
   show ∃ r,aside P w1.heap.size Q k=some r∧r≠.tmp
   by_cases hk:k<w1.heap.size
   · obtain⟨-,q,hq⟩:=m4 k _ hk e
     exact⟨q,(aside_lt hk).trans hq,pt k q hq⟩
   · rw[m1 k hk] at e;exact absurd rfl (qt k _ e)
 · exact (aside_lt (Nat.lt_of_lt_of_le hb ga.size)).trans (p0 b hb)
 · exact m2 b (Nat.lt_of_lt_of_le hb ga.size) (p0 b hb)
 · exact (aside_lt hlt1).trans (by rw[hP];exact own1_none hk1)
 · exact (gb.block k1 hlt1 rfl).trans hk2
 · show aside P w1.heap.size Q k2=none
   rw[aside_ge hk4,show Q k2=none from by rw[hQ];unfold own1;rw[if_neg (Nat.not_lt_zero _),hk3]]
 · exact m2 k1 hlt1 (by rw[hP];exact own1_none hk1)
 · exact (gb.block k1 hlt1 rfl).trans hk2
 · show M k2=none
   rw[m1 k2 (by omega),hQ];unfold own1;rw[if_neg (Nat.not_lt_zero _),hk3]
theorem E2.row {be ce:Nat} {w0 w:World} {ks:List Kept} {vs:List (Nat×Obj)} {σ τ:St} {size:Nat} {v:Value} {xs:List Value} (h:∃ A B:Book,(A.be=be∧B.be=ce∧Two A σ B τ vs w∧Grow (fun _=>none) w0 A.L w∧Grow (fun _=>none) w0 B.L w∧KN A.L w ks∧KN B.L w ks)∧FRow A.L w size v xs):E2 be ce w0 (.row size v xs::ks) vs σ τ w:=by
 obtain⟨A,B,⟨e1,e2,t,g1,g2,k1,k2⟩,f⟩:=h;refine⟨A,B,e1,e2,t,g1,g2,KN.row f k1,KN.row ?_ k2⟩;exact FRow.soft f ⟨Nat.le_refl _,fun _ _ _=>rfl,fun b _ e=>t.none e⟩
theorem E2.leftRowK {be ce:Nat} {w0 w:World} {ks:List Kept} {vs:List (Nat×Obj)} {σ τ:St} (h:E2 be ce w0 ks vs σ τ w) {f:FuncId} {args:Array Value} {σ':St} {R:Ending→Value→Prop} {size:Nat} {xs:List Value}
 (hc:∀ A,Live A σ w→A.be=be→Kepts A.L w ks→Calls Tryz.prog f args w fun e w'=>∃ A' vp,R e vp∧FRow A'.L w' size vp xs∧Live A' σ' w'∧Grow A.L w A'.L w'∧A'.be=A.be):
 Calls Tryz.prog f args w fun e w'=>∃ vp,R e vp∧E2 be ce w0 (.row size vp xs::ks) vs σ' τ w':=by
 obtain⟨A,B,e1,e2,t,g1,g2,k1,k2⟩:=h.ex;refine (hc A t.a e1 k1.1).mono ?_;rintro e w' ⟨A',vp,hR,hf,hL,g,eb⟩;have ho:=t.off hL g;have t':=t.left hL g;have sa:Soft A.L w (own1 w.heap.size A'.L) w':=⟨g.size,fun b hb e=>g.block b hb e,fun b hb e=>own1_none ((g.lab b hb).trans e)⟩
 have ga:=g1.trans g;have f1:FRow (own1 w.heap.size A'.L) w' size vp xs:=FRow.soft hf ⟨Nat.le_refl _,fun _ _ _=>rfl,fun b _ e=>own1_none e⟩;have f2:FRow (aside B.L w.heap.size A'.L) w' size vp xs:=FRow.soft f1 ⟨Nat.le_refl _,fun _ _ _=>rfl,fun b _ e=>t'.none e⟩;refine⟨vp,hR,A'.lab (own1 w.heap.size A'.L),B.lab (aside B.L w.heap.size A'.L),eb.trans e1,e2,t',⟨ga.os,ga.tape,ga.output,ga.size,ga.block,fun b hb=>own1_none (ga.lab b hb),fun b hb e=>(by cases e)⟩,⟨g.os.trans g2.os,g.tape.trans g2.tape,g.output.trans g2.output,Nat.le_trans g2.size g.size,fun b hb hn=>?_,fun b hb=>?_,fun b hb e=>(by cases e)⟩,KN.row f1 (KN.soft sa k1),KN.row f2 (KN.soft ho.soft k2)⟩
 · have hb':b<w.heap.size:=Nat.lt_of_lt_of_le hb g2.size
   have hn2:B.L b=none:=g2.lab b hb;exact (ho.same b hb' (by rw[hn2];simp)).trans (g2.block b hb rfl)
 · have hb':b<w.heap.size:=Nat.lt_of_lt_of_le hb g2.size
   exact (aside_lt hb').trans (g2.lab b hb)
theorem E2.leftRow {be ce:Nat} {w0 w:World} {ks:List Kept} {vs:List (Nat×Obj)} {σ τ:St} (h:E2 be ce w0 ks vs σ τ w) {f:FuncId} {args:Array Value} {σ':St} {R:Ending→Value→Prop} {size:Nat} {xs:List Value}
 (hc:∀ A,Live A σ w→A.be=be→Calls Tryz.prog f args w fun e w'=>∃ A' vp,R e vp∧FRow A'.L w' size vp xs∧Live A' σ' w'∧Grow A.L w A'.L w'∧A'.be=A.be):
 Calls Tryz.prog f args w fun e w'=>∃ vp,R e vp∧E2 be ce w0 (.row size vp xs::ks) vs σ' τ w':=
 h.leftRowK fun A l e _=>hc A l e
theorem E2.obj {be ce:Nat} {w0 w:World} {ks:List Kept} {vs:List (Nat×Obj)} {σ τ:St} {k:Nat} {o:Obj} (h:E2 be ce w0 ks vs σ τ w) (hm:.obj k o∈ks):w.heap[k]? =some o:=by
 obtain⟨A,B,e1,e2,t,g1,g2,⟨k1,kn⟩,k2⟩:=h.ex;clear h g1 g2 t k2 kn
 induction ks with
 |nil=>cases hm
 |cons x ks ih=>
  rcases List.mem_cons.1 hm with rfl|hm
  · exact k1.1.2
  · exact ih hm k1.2
theorem E2.rowOf {be ce:Nat} {w0 w:World} {ks:List Kept} {vs:List (Nat×Obj)} {σ τ:St} {size:Nat} {v:Value} {xs:List Value} (h:E2 be ce w0 ks vs σ τ w) (hm:.row size v xs∈ks):Ow.Row w 0 size v xs:=by
 obtain⟨A,B,e1,e2,t,g1,g2,⟨k1,kn⟩,k2⟩:=h.ex;have hf:FRow A.L w size v xs:=by
  clear h g1 g2 t k2 kn
  induction ks with
  |nil=>cases hm
  |cons x ks ih=>
   rcases List.mem_cons.1 hm with rfl|hm
   · exact k1.1
   · exact ih hm k1.2
 obtain⟨ad,n,cap,rfl,h2,h3,h4,h5⟩:=hf;refine⟨ad,n,cap,rfl,h2,h3,h4,?_⟩
 rcases h5 with h5|⟨g,off,e1,e2,e3,e4⟩
 · exact .inl h5
 · exact .inr ⟨g,off,e1,Nat.zero_le _,e3,e4⟩
theorem E2.look {be ce:Nat} {w0 w:World} {ks:List Kept} {vs:List (Nat×Obj)} {σ τ:St} (h:E2 be ce w0 ks vs σ τ w) {f:FuncId} {args:Array Value} {R:Ending→Prop} (hc:∀ A,Live A σ w→A.be=be→Calls Tryz.prog f args w fun e w'=>R e∧Below w.heap.size w w'):
 Calls Tryz.prog f args w fun e w'=>R e∧E2 be ce w0 ks vs σ τ w':=by
 obtain⟨A,B,e1,e2,t,g1,g2,k1,k2⟩:=h.ex;refine (hc A t.a e1).mono ?_;rintro e w' ⟨hR,hb⟩;exact⟨hR,E2.below ⟨A,B,e1,e2,t,g1,g2,k1,k2⟩ hb⟩
theorem E2.var {be ce:Nat} {w0 w:World} {ks:List Kept} {vs:List (Nat×Obj)} {σ τ:St} (h:E2 be ce w0 ks vs σ τ w) (o:Obj):E2 be ce w0 ks ((w.heap.size,o)::vs) σ τ (w.alloc o):=by
 obtain⟨A,B,e1,e2,t,g1,g2,k1,k2⟩:=h.ex;have ga:Grow A.L w (A.tmp w.heap.size).L (w.alloc o):=(Grow.alloc A.L w o).lab1 (Nat.le_refl _) _;have gb:Grow B.L w (B.tmp w.heap.size).L (w.alloc o):=(Grow.alloc B.L w o).lab1 (Nat.le_refl _) _;have fa:∀ k r,A.L k=some r→k≠w.heap.size:=fun k r e hk=>by rw[t.a.rep.mem.fresh k (by omega)] at e;cases e
 have fb:∀ k r,B.L k=some r→k≠w.heap.size:=fun k r e hk=>by rw[t.b.rep.mem.fresh k (by omega)] at e;cases e
 have ia:∀ k r,lab1 A.L w.heap.size .tmp k=some r→(k=w.heap.size∧r=.tmp)∨A.L k=some r:=fun k r e=>by
  by_cases hk:k=w.heap.size
  · subst hk;rw[lab1_same] at e;exact .inl ⟨rfl,(Option.some.inj e).symm⟩
  · rw[lab1_other hk] at e;exact .inr e
 have ib:∀ k r,lab1 B.L w.heap.size .tmp k=some r→(k=w.heap.size∧r=.tmp)∨B.L k=some r:=fun k r e=>by
  by_cases hk:k=w.heap.size
  · subst hk;rw[lab1_same] at e;exact .inl ⟨rfl,(Option.some.inj e).symm⟩
  · rw[lab1_other hk] at e;exact .inr e
 have oa:∀ k r,A.L k=some r→lab1 A.L w.heap.size .tmp k=some r:=fun k r e=>(lab1_other (fa k r e)).trans e
 have ob:∀ k r,B.L k=some r→lab1 B.L w.heap.size .tmp k=some r:=fun k r e=>(lab1_other (fb k r e)).trans e
 refine⟨A.tmp w.heap.size,B.tmp w.heap.size,e1,e2,⟨t.a.newTmp o,t.b.newTmp o,fun k r e hr=>?_,fun k r e hr=>?_,fun k e=>?_,fun k e=>?_,fun k p hm=>?_⟩,g1.trans ga,g2.trans gb,k1.grow ga,k2.grow gb⟩
 · rcases ia k r e with ⟨_,h1⟩|h1
   · exact absurd h1 hr
   · exact ob k _ (t.ab k r h1 hr)
 · rcases ib k r e with ⟨_,h1⟩|h1
   · exact absurd h1 hr
   · exact oa k _ (t.ba k r h1 hr)
 · rcases ia k _ e with ⟨h1,_⟩|h1
   · exact .inr ⟨o,by rw[h1];exact List.mem_cons_self⟩
   · rcases t.at_ k h1 with ⟨r,h2,h3⟩|⟨p,h2⟩
     · exact .inl ⟨r,ob k r h2,h3⟩
     · exact .inr ⟨p,List.mem_cons_of_mem _ h2⟩
 · rcases ib k _ e with ⟨h1,_⟩|h1
   · exact .inr ⟨o,by rw[h1];exact List.mem_cons_self⟩
   · rcases t.bt k h1 with ⟨r,h2,h3⟩|⟨p,h2⟩
     · exact .inl ⟨r,oa k r h2,h3⟩
     · exact .inr ⟨p,List.mem_cons_of_mem _ h2⟩
 · rcases List.mem_cons.1 hm with h1|h1
   · obtain⟨rfl,rfl⟩:=Prod.mk.inj h1
     exact⟨lab1_same _ _ _,lab1_same _ _ _,heap_alloc_new w p⟩
   · obtain⟨h2,h3,h4⟩:=t.vr k p h1
     exact⟨oa k _ h2,ob k _ h3,(Below.heap_alloc w o k (lt_of h4)).trans h4⟩
theorem E2.varOf {be ce:Nat} {w0 w:World} {ks:List Kept} {vs:List (Nat×Obj)} {σ τ:St} (h:E2 be ce w0 ks vs σ τ w) {g:Nat} {o:Obj} (hm:(g,o)∈vs):w.heap[g]? =some o:=by
 obtain⟨A,B,e1,e2,t,g1,g2,k1,k2⟩:=h.ex;exact (t.vr g o hm).2.2
theorem E2.put {be ce:Nat} {w0 w w':World} {ks:List Kept} {vs:List (Nat×Obj)} {σ τ:St} {g:Nat} {o o':Obj} (h:E2 be ce w0 ks ((g,o)::vs) σ τ w) (hv:∀ p,(g,p) ∉ vs) (hb:But g w w') (ho:w'.heap[g]? =some o'):E2 be ce w0 ks ((g,o')::vs) σ τ w':=by
 obtain⟨A,B,e1,e2,t,g1,g2,k1,k2⟩:=h.ex;obtain⟨la,lb,lo⟩:=t.vr g o List.mem_cons_self;have hg1:w0.heap.size≤g:=by
  rcases Nat.lt_or_ge g w0.heap.size with h1|h1
  · rw[g1.lab g h1] at la;cases la
  · exact h1
 refine⟨A,B,e1,e2,⟨t.a.but la hb,t.b.but lb hb,t.ab,t.ba,fun k e=>?_,fun k e=>?_,fun k p hm=>?_⟩,g1.but hg1 hb,g2.but hg1 hb,k1.soft (hb.soft la),k2.soft (hb.soft lb)⟩
 · rcases t.at_ k e with h2|⟨p,h2⟩
   · exact .inl h2
   · rcases List.mem_cons.1 h2 with h3|h3
     · obtain⟨rfl,rfl⟩:=Prod.mk.inj h3
       exact .inr ⟨o',List.mem_cons_self⟩
     · exact .inr ⟨p,List.mem_cons_of_mem _ h3⟩
 · rcases t.bt k e with h2|⟨p,h2⟩
   · exact .inl h2
   · rcases List.mem_cons.1 h2 with h3|h3
     · obtain⟨rfl,rfl⟩:=Prod.mk.inj h3
       exact .inr ⟨o',List.mem_cons_self⟩
     · exact .inr ⟨p,List.mem_cons_of_mem _ h3⟩
 · rcases List.mem_cons.1 hm with h3|h3
   · obtain⟨rfl,rfl⟩:=Prod.mk.inj h3
     exact⟨la,lb,ho⟩
   · obtain⟨h4,h5,h6⟩:=t.vr k p (List.mem_cons_of_mem _ h3)
     exact⟨h4,h5,(hb.block k (fun e=>hv p (e ▸ h3))).trans h6⟩
theorem E2.vlt {be ce:Nat} {w0 w:World} {ks:List Kept} {vs:List (Nat×Obj)} {σ τ:St} (h:E2 be ce w0 ks vs σ τ w) {g:Nat} {o:Obj} (hm:(g,o)∈vs):g<w.heap.size:=lt_of (h.varOf hm)
structure TV (A0:Book) (w0:World) (fx vs:List (Nat×Obj)) (rs:List (Value×List Value)) (σ:St) (w:World):Prop where
 ex:∃ A:Book,A.be=A0.be∧Live A σ w∧Grow A0.L w0 A.L w∧(∀ k o,(k,o)∈fx→Fix A.L w k o)∧(∀ k o,(k,o)∈vs→A.L k=some .tmp∧w.heap[k]? =some o∧w0.heap.size≤k)∧(∀ v xs,(v,xs)∈rs→FRow A.L w 2 v xs)
section
variable {A0:Book} {w0 w w':World} {fx vs:List (Nat×Obj)} {rs:List (Value×List Value)} {σ σ1:St}
theorem TV.start (hL:Live A0 σ w0) {pl:Nat} {o:Obj} (hf:Fix A0.L w0 pl o):TV A0 w0 [(pl,o)] [] [] σ w0:=
 ⟨A0,rfl,hL,Grow.refl _ _,fun k p hm=>(by simp at hm;obtain⟨rfl,rfl⟩:=hm;exact hf),fun k p hm=>(by cases hm),fun v xs hm=>(by cases hm)⟩
theorem TV.below (h:TV A0 w0 fx vs rs σ w) (hb:Below w.heap.size w w'):TV A0 w0 fx vs rs σ w':=
 let ⟨A,e,l,g,f,v,r⟩:=h.ex
 ⟨A,e,l.below hb,g.trans (Grow.below hb),fun k o hm=>(f k o hm).grow (Grow.below hb),fun k o hm=>⟨(v k o hm).1,(hb.block k (lt_of (v k o hm).2.1)).trans (v k o hm).2.1,(v k o hm).2.2⟩,fun x xs hm=>(r x xs hm).grow (Grow.below hb)⟩
theorem TV.alloc (h:TV A0 w0 fx vs rs σ w) (o:Obj):TV A0 w0 ((w.heap.size,o)::fx) vs rs σ (w.alloc o):=by
 have h2:=h.below ((Below.refl _ w).alloc (Nat.le_refl _) o);obtain⟨A,e,l,g,f,v,r⟩:=h2.ex;obtain⟨A1,e1,l1,g1,f1,v1,r1⟩:=h.ex;refine⟨A1,e1,l1.alloc o,g1.trans (Grow.alloc _ _ _),fun k p hm=>?_,fun k p hm=>⟨(v1 k p hm).1,(Below.heap_alloc w o k (lt_of (v1 k p hm).2.1)).trans (v1 k p hm).2.1,(v1 k p hm).2.2⟩,fun x xs hm=>(r1 x xs hm).grow (Grow.alloc _ _ _)⟩
 rcases List.mem_cons.1 hm with h3|h3
 · obtain⟨rfl,rfl⟩:=Prod.mk.inj h3
   exact fix_next l1.rep.mem.fresh _ rfl
 · exact (f1 k p h3).grow (Grow.alloc _ _ _)
theorem TV.var (h:TV A0 w0 fx vs rs σ w) (o:Obj):TV A0 w0 fx ((w.heap.size,o)::vs) rs σ (w.alloc o):=by
 obtain⟨A,e,l,g,f,v,r⟩:=h.ex;obtain⟨_,g1,t1,t2⟩:=l.rep.newTmp o;refine⟨A.tmp w.heap.size,e,l.newTmp o,g.trans g1,fun k p hm=>(f k p hm).grow g1,fun k p hm=>?_,fun x xs hm=>(r x xs hm).grow g1⟩
 rcases List.mem_cons.1 hm with h3|h3
 · obtain⟨rfl,rfl⟩:=Prod.mk.inj h3
   exact⟨t1,t2,g.size⟩
 · obtain⟨h4,h5,h6⟩:=v k p h3
   obtain⟨h7,h8⟩:=tmp_grow ⟨h4,h5⟩ g1;exact⟨h7,h8,h6⟩
theorem TV.fixOf (h:TV A0 w0 fx vs rs σ w) {k:Nat} {o:Obj} (hm:(k,o)∈fx):w.heap[k]? =some o:=let ⟨_,_,_,_,f,_,_⟩:=h.ex;(f k o hm).2
theorem TV.varOf (h:TV A0 w0 fx vs rs σ w) {k:Nat} {o:Obj} (hm:(k,o)∈vs):w.heap[k]? =some o:=let ⟨_,_,_,_,_,v,_⟩:=h.ex;(v k o hm).2.1
theorem TV.rowOf (h:TV A0 w0 fx vs rs σ w) {v:Value} {xs:List Value} (hm:(v,xs)∈rs):∃ a n c,v=.slice a n c:=let ⟨_,_,_,_,_,_,r⟩:=h.ex;frow_form (r v xs hm)
theorem TV.put {g:Nat} {o o':Obj} (h:TV A0 w0 fx ((g,o)::vs) rs σ w) (hv:∀ p,(g,p) ∉ vs) (hb:But g w w') (ho:w'.heap[g]? =some o'):TV A0 w0 fx ((g,o')::vs) rs σ w':=by
 obtain⟨A,e,l,gr,f,v,r⟩:=h.ex;obtain⟨la,lo,lg⟩:=v g o List.mem_cons_self;refine⟨A,e,l.but la hb,gr.but lg hb,fun k p hm=>(f k p hm).but la hb,fun k p hm=>?_,fun x xs hm=>(r x xs hm).but la hb⟩
 rcases List.mem_cons.1 hm with h3|h3
 · obtain⟨rfl,rfl⟩:=Prod.mk.inj h3
   exact⟨la,ho,lg⟩
 · obtain⟨h4,h5,h6⟩:=v k p (List.mem_cons_of_mem _ h3)
   exact⟨h4,(hb.block k (fun e=>hv p (e ▸ h3))).trans h5,h6⟩
theorem TV.set {g:Nat} {cs:Array Value} {T:TypeId} (h:TV A0 w0 fx ((g,.cells cs T)::vs) rs σ w) (hv:∀ p,(g,p) ∉ vs) (i:Nat) (v:Value):TV A0 w0 fx ((g,.cells (cs.setIfInBounds i v) T)::vs) rs σ (w.setCell ⟨g,i,none⟩ v):=
 h.put hv (But.setCell w ⟨g,i,none⟩ v) (heap_setCell_same (h.varOf List.mem_cons_self) i v)
theorem TV.swap {p q:Nat×Obj} (h:TV A0 w0 fx (p::q::vs) rs σ w):TV A0 w0 fx (q::p::vs) rs σ w:=by
 obtain⟨A,e,l,g,f,v,r⟩:=h.ex;refine⟨A,e,l,g,f,fun k o hm=>v k o ?_,r⟩;simp only[List.mem_cons] at hm ⊢
 rcases hm with h1|h1|h1
 · exact .inr (.inl h1)
 · exact .inl h1
 · exact .inr (.inr h1)
theorem TV.call (h:TV A0 w0 fx vs rs σ w) {fn:FuncId} {args:Array Value} {R:Ending→Prop}
 (hc:∀ A,Live A σ w→A.be=A0.be→Calls Tryz.prog fn args w fun e w'=>R e∧∃ A',Live A' σ1 w'∧Grow A.L w A'.L w'∧A'.be=A.be):
 Calls Tryz.prog fn args w fun e w'=>R e∧TV A0 w0 fx vs rs σ1 w':=by
 obtain⟨A,e,l,g,f,v,r⟩:=h.ex;refine (hc A l e).mono ?_;rintro x w' ⟨hR,A',l',g',e'⟩;refine⟨hR,A',e'.trans e,l',g.trans g',fun k o hm=>(f k o hm).grow g',fun k o hm=>?_,fun x xs hm=>(r x xs hm).grow g'⟩;obtain⟨h4,h5,h6⟩:=v k o hm;obtain⟨h7,h8⟩:=tmp_grow ⟨h4,h5⟩ g';exact⟨h7,h8,h6⟩
theorem TV.callRow (h:TV A0 w0 fx vs rs σ w) {fn:FuncId} {args:Array Value} {R:Ending→Value→Prop} {xs:List Value}
 (hc:∀ A,Live A σ w→A.be=A0.be→Calls Tryz.prog fn args w fun e w'=>∃ A' vp,R e vp∧FRow A'.L w' 2 vp xs∧Live A' σ1 w'∧Grow A.L w A'.L w'∧A'.be=A.be):
 Calls Tryz.prog fn args w fun e w'=>∃ vp,R e vp∧TV A0 w0 fx vs ((vp,xs)::rs) σ1 w':=by
 obtain⟨A,e,l,g,f,v,r⟩:=h.ex;refine (hc A l e).mono ?_;rintro x w' ⟨A',vp,hR,hf,l',g',e'⟩;refine⟨vp,hR,A',e'.trans e,l',g.trans g',fun k o hm=>(f k o hm).grow g',fun k o hm=>?_,fun x xs hm=>?_⟩
 · obtain⟨h4,h5,h6⟩:=v k o hm
   obtain⟨h7,h8⟩:=tmp_grow ⟨h4,h5⟩ g';exact⟨h7,h8,h6⟩
 · rcases List.mem_cons.1 hm with h3|h3
   · obtain⟨rfl,rfl⟩:=Prod.mk.inj h3
     exact hf
   · exact (r _ _ h3).grow g'
end
def Plays (A0:Book) (w0:World) (σ1:St) (er id kd re rv rn ro:Int) (ps:List (Nat×Nat)):Ending→World→Prop:=fun x w'=>
 ∃ A' vp,x=.returned (.agg #[zi er,zi id,zi kd,zi re,zi rv,vp,zi rn,zi ro])∧FRow A'.L w' 2 vp (pairCs ps)∧Live A' σ1 w'∧Grow A0.L w0 A'.L w'∧A'.be=A0.be
theorem TV.plays {A0:Book} {w0 w:World} {fx vs:List (Nat×Obj)} {rs:List (Value×List Value)} {σ:St} {vp:Value} {er id kd re rv rn ro:Int} {ps:List (Nat×Nat)} (h:TV A0 w0 fx vs ((vp,pairCs ps)::rs) σ w):
 Plays A0 w0 σ er id kd re rv rn ro ps (.returned (.agg #[zi er,zi id,zi kd,zi re,zi rv,vp,zi rn,zi ro])) w:=by
 obtain⟨A,e,l,g,f,v,r⟩:=h.ex;exact⟨A,vp,rfl,r _ _ List.mem_cons_self,l,g,e⟩
theorem TV.none {A0:Book} {w0 w:World} {fx vs:List (Nat×Obj)} {rs:List (Value×List Value)} {σ:St} (h:TV A0 w0 fx vs rs σ w):TV A0 w0 fx vs ((.slice none 0 0,pairCs [])::rs) σ w:=by
 obtain⟨A,e,l,g,f,v,r⟩:=h.ex;refine⟨A,e,l,g,f,v,fun x xs hm=>?_⟩
 rcases List.mem_cons.1 hm with h3|h3
 · obtain⟨rfl,rfl⟩:=Prod.mk.inj h3
   exact FRow.nil _ _ _
 · exact r x xs h3
theorem heap_setCells8 {w:World} {b:Nat} {a0 a1 a2 a3 a4 a5 a6 a7:Value} {T:TypeId} (h:w.heap[b]? =some (.cells #[a0,a1,a2,a3,a4,a5,a6,a7] T)) (v0 v1 v2 v3 v4 v5 v6 v7:Value):(w.setCells b 0 [v0,v1,v2,v3,v4,v5,v6,v7]).heap[b]? =some (.cells #[v0,v1,v2,v3,v4,v5,v6,v7] T):=by
 have h1:=heap_setCell_same h 0 v0;have h2:=heap_setCell_same h1 1 v1;have h3:=heap_setCell_same h2 2 v2;have h4:=heap_setCell_same h3 3 v3;have h5:=heap_setCell_same h4 4 v4;have h6:=heap_setCell_same h5 5 v5;have h7:=heap_setCell_same h6 6 v6;have h8:=heap_setCell_same h7 7 v7;exact h8
theorem cell_of_obj {w:World} {b:Nat} {cs:Array Value} {T:TypeId} (h:w.heap[b]? =some (.cells cs T)) (i:Nat) {v:Value} (hv:cs[i]? =some v):w.cell? ⟨b,i,none⟩=some v∧w.frozen? ⟨b,i,none⟩=false:=by
 refine⟨?_,by simp[World.frozen?,h]⟩;rw[cell_of_row w b i _ _ _ h];exact hv
section
variable {w:World} {b g h:Nat} {p v a0 a1 a2 a3 a4 a5 a6 c0 c1 c2 c3 c4 c5 c6 c7:Value} {T U:TypeId}
theorem lay8 (h1:w.cell? ⟨b,0,none⟩=some p) (h2:w.heap[g]? =some (.cells #[a0,a1,a2,a3,a4,a5,a6] T)):w.cell? ⟨b,0,none⟩=some p∧w.cell? ⟨g,0,none⟩=some a0∧w.cell? ⟨g,1,none⟩=some a1∧w.cell? ⟨g,2,none⟩=some a2∧w.cell? ⟨g,3,none⟩=some a3∧w.cell? ⟨g,4,none⟩=some a4∧w.cell? ⟨g,5,none⟩=some a5∧w.cell? ⟨g,6,none⟩=some a6:=
 ⟨h1,(cell_of_obj h2 0 rfl).1,(cell_of_obj h2 1 rfl).1,(cell_of_obj h2 2 rfl).1,(cell_of_obj h2 3 rfl).1,(cell_of_obj h2 4 rfl).1,(cell_of_obj h2 5 rfl).1,(cell_of_obj h2 6 rfl).1⟩
theorem lay17 {d:Nat} (h0:w.cell? ⟨d,0,none⟩=some v) (h1:w.cell? ⟨b,0,none⟩=some p) (h2:w.heap[g]? =some (.cells #[a0,a1,a2,a3,a4,a5,a6] T)) (h3:w.heap[h]? =some (.cells #[c0,c1,c2,c3,c4,c5,c6,c7] U)):w.cell? ⟨d,0,none⟩=some v∧w.cell? ⟨b,0,none⟩=some p∧w.cell? ⟨g,0,none⟩=some a0∧w.cell? ⟨g,1,none⟩=some a1∧w.cell? ⟨g,2,none⟩=some a2∧w.cell? ⟨g,3,none⟩=some a3∧w.cell? ⟨g,4,none⟩=some a4∧w.cell? ⟨g,5,none⟩=some a5∧w.cell? ⟨g,6,none⟩=some a6∧w.cell? ⟨h,0,none⟩=some c0∧w.cell? ⟨h,1,none⟩=some c1∧w.cell? ⟨h,2,none⟩=some c2∧w.cell? ⟨h,3,none⟩=some c3∧w.cell? ⟨h,4,none⟩=some c4∧w.cell? ⟨h,5,none⟩=some c5∧w.cell? ⟨h,6,none⟩=some c6∧w.cell? ⟨h,7,none⟩=some c7:=
 ⟨h0,h1,(cell_of_obj h2 0 rfl).1,(cell_of_obj h2 1 rfl).1,(cell_of_obj h2 2 rfl).1,(cell_of_obj h2 3 rfl).1,(cell_of_obj h2 4 rfl).1,(cell_of_obj h2 5 rfl).1,(cell_of_obj h2 6 rfl).1,(cell_of_obj h3 0 rfl).1,(cell_of_obj h3 1 rfl).1,(cell_of_obj h3 2 rfl).1,(cell_of_obj h3 3 rfl).1,(cell_of_obj h3 4 rfl).1,(cell_of_obj h3 5 rfl).1,(cell_of_obj h3 6 rfl).1,(cell_of_obj h3 7 rfl).1⟩
end
end Go.Proofs.YthicolbbmjfkfaaGreat.Em
