import Derived.Test.YthicolbbmjfkfaaGreatQf26
set_option linter.unusedVariables false
set_option linter.unusedSimpArgs false
set_option maxRecDepth 100000
set_option maxHeartbeats 1600000
namespace Go.Proofs.YthicolbbmjfkfaaGreat.Em.Cw
open En
/- Times,ends,bonds. -/
def HT (t:bL) (h:dR):Prop:=match h.thn with
 |.judge _ _=>h.at_=t.ay∧t.ay≠0
 |_=>h.at_=t.aJ∧t.ay=0
def KT (P Q:Nat->Prop) (t:bL):K->Prop
 |.start h|.visit h _|.older h _=>HT t h
 |.maker h _ id=>HT t h∧id≠t.id
 |.ended h _ mb=>HT t h∧(mb=0∨P mb)
 |.ik h _ mb id=>HT t h∧(mb=0∨P mb)∧id≠t.id
 |.seen h _ mb=>HT t h∧P mb
 |.turn w now=>t.ay=0∧aj w=now∧Q w
 |.eX w now=>t.ay=0∧aj w=now∧aZ w≠0∧Q w
 |.eB|.wait _|.cZ=>t.ay≠0
 |.abort _ _=>True
 |.turns _ _=>False
 |_=>t.ay=0
def Pf:K->Bool
 |.eX _ _|.turn _ _|.eB|.cZ|.abort _ _|.turns _ _=>false
 |_=>true
structure jr (P:Nat->Prop) (t0 t:bL):Prop where
 id:t.id=t0.id
 bg:t.aJ=t0.aJ
 en:t.ay=t0.ay
 lv:t.ax=t0.ax
 ov:t.over=t0.over
 bo:t.aR=t0.aR∨∃ b,P b∧b ∉ t0.aR∧t.aR=t0.aR++[b]
def Tl (P:Nat->Prop) (tl:List Ev) (t0 t:bL) (aQ:List Ev):Prop:=(t.aR=t0.aR∧aQ=tl)∨∃ b,P b∧b ∉ t0.aR∧t.aR=t0.aR++[b]∧aQ=tl++[{kind:=4,t:=t0.id,n:=b}]
def TO (N L n s d:Nat) (D:St) (P Q:Nat->Prop) (t0:bL) (tl:List Ev) (r:St×K):Prop:=∃ t c,Mid N L n s d D r.1 t c∧jr P t0 t∧Tl P tl t0 t r.1.aQ∧KT P Q t0 r.2
def RT (N L n s:Nat) (D:St) (P Q:Nat->Prop) (t0:bL) (tl:List Ev) (r:St×Option K):Prop:=∃ t c d,Mid N L n s d D r.1 t c∧jr P t0 t∧Tl P tl t0 t r.1.aQ∧∀ k,r.2=some k->KT P Q t0 k
section
variable {N L n s q cq d:Nat} {D τ υ aC:St} {t t0:bL} {c:dY} {P Q:Nat->Prop} {tl:List Ev}
theorem jr.refl (t:bL):jr P t t:=⟨rfl,rfl,rfl,rfl,rfl,.inl rfl⟩
theorem TO.rt {r:St×K} {n':Nat} (h:TO N L n s d D P Q t0 tl r) (hn:n<=n'):RT N L n' s D P Q t0 tl (r.1,some r.2):=by
 obtain⟨t,c,m,h1,h2,h3⟩:=h;exact⟨t,c,d,m.mono hn,h1,h2,fun k e=>by obtain rfl:=zj e;exact h3⟩
theorem Ab (e:t.ay=t0.ay) (h0:t0.ay≠0) (i:Nat):KT P Q t0 (dH t i):=by
 unfold dH;simp only
 split
 . unfold jT
   split<;>exact h0
 . exact⟨e,h0⟩
theorem BL (k:Nat):∀ (F:Nat) (τ:St) (c:dY),Mid N L n s d D τ t c->jr P t0 t->Tl P tl t0 t τ.aQ->t0.ay=0->TO N L n s d D P Q t0 tl (iH s k τ F):=by
 induction k with
 |zero=>
  intro F τ c m hs hl h0;exact⟨t,c,m,hs,hl,h0⟩
 |succ k ih=>
  intro F τ c m hs hl h0;unfold iH;rw[m.ec,m.et]
  split
  . exact⟨t,c,m,hs,hl,h0⟩
  . split
    . rename_i x hx
      cases hth:x.there with
      |true=>
       simp only[if_true];exact ih (F+1) _ _ (m.tell F (τ.valueOf x.own)) hs hl h0
      |false=>
       simp only[Bool.false_eq_true,if_false];exact ih (F+1) _ c m hs hl h0
    . exact⟨t,c,m,hs,hl,hs.bg,h0⟩
theorem jr.reads {l:List (Nat×Nat×Bool)} (h:jr P t0 t):jr P t0 {t with reads:=l}:=⟨h.id,h.bg,h.en,h.lv,h.ov,h.bo⟩
theorem mZ (m:Mid N L n s d D τ t c) (hs:jr P t0 t) (hl:Tl P tl t0 t τ.aQ) {h:dR} (Y:iA t c h) (hck:c.op.F<64) (hh:HT t0 h) (G:Nat):TO N L (n+1) s d D P Q t0 tl (τ.thn s h G):=by
 obtain⟨F,at_,thn⟩:=h;obtain⟨Y,h2⟩:=Y;unfold St.thn
 cases thn with
 |get=>
  simp only;have m2:=m.read F G (G !=0) Y
  split<;>exact⟨_,c,m2,hs.reads,hl,hh.2⟩
 |scan k=>
  obtain⟨rfl,hhi,hp⟩:=h2;simp only at Y ⊢;unfold St.scan;have m2:=m.read k G false Y
  by_cases h0:G=0
  . rw[aW h0]
    exact BL _ (k+1) _ c m2 hs.reads hl hh.2
  . rw[bu h0]
    exact BL _ (k+1) _ _ (m2.tell k ((τ.read s k G false).valueOf G)) hs.reads hl hh.2
 |change=>
  simp only;rw[m.ec]
  split
  . exact⟨_,c,m.read _ G false hck,hs.reads,hl,hh.2⟩
  split
  . exact⟨_,c,m.read _ G false hck,hs.reads,hl,hh.2⟩
  split
  . exact⟨t,c,m.mono (pQ _),hs,hl,hh.2⟩
  . exact⟨t,c,m.mono (pQ _),hs,hl,hh.2⟩
 |judge i l=>
  simp only
  split
  . exact⟨t,c,m.mono (pQ _),hs,hl,trivial⟩
  . refine⟨t,c,m.mono (pQ _),hs,hl,?_⟩
    show KT P Q t0 (dH (τ.t s) (i+1));rw[m.et];exact Ab hs.en hh.2 _
theorem Eh (m:Mid N L n s d D τ t c) (hs:jr P t0 t) (hl:Tl P tl t0 t τ.aQ) {h:dR} (Y:iA t c h) (hck:c.op.F<64) (hh:HT t0 h) (G:Nat):TO N L (n+1) s d D P Q t0 tl (τ.visit s h G):=by
 unfold St.visit
 split
 . exact mZ m hs hl Y hck hh 0
 . exact⟨t,c,m.mono (pQ _),hs,hl,hh⟩
theorem Ia (m:Mid N L n s d D τ t c) (hs:jr P t0 t) (hl:Tl P tl t0 t τ.aQ) {h:dR} (Y:iA t c h) (hck:c.op.F<64) (hh:HT t0 h) (G:Nat) {mb:Nat} (hm:mb=0∨P mb):TO N L (n+1) s d D P Q t0 tl (τ.seen s h G mb):=by
 unfold St.seen
 split
 . exact mZ m hs hl Y hck hh G
 . rename_i h0
   exact⟨t,c,m.mono (pQ _),hs,hl,hh,hm.resolve_left h0⟩
theorem BM (m:Mid N L n s d D τ t c) (hs:jr P t0 t) (hl:Tl P tl t0 t τ.aQ) (h0:t0.ay=0) (x:Bool) (G head:Nat):TO N L n s d D P Q t0 tl (τ.slot s x G head):=by
 unfold St.slot
 by_cases hl0:G=0
 . rw[aW hl0]
   have m2:=m.take;have e7:=(uy τ).2.2.2.2.2.2.1
   cases e:τ.take with
   |mk UR o=>
    rw[e] at m2 e7
    cases o with
    |none=>exact⟨t,c,m2,hs,by show Tl P tl t0 t UR.aQ;rw[e7];exact hl,trivial⟩
    |some l=>exact⟨t,c,m2.vals _ _,hs,by show Tl P tl t0 t UR.aQ;rw[e7];exact hl,h0⟩
 . rw[bu hl0]
   exact⟨t,c,m.vals _ _,hs,hl,h0⟩
theorem Ei (m:Mid N L n s d D τ t c) (hs:jr P t0 t) (hl:Tl P tl t0 t τ.aQ) (h0:t0.ay=0) (G head at_:Nat):TO N L n s d D P Q t0 tl (τ.jk s G head at_):=by
 unfold St.jk
 split
 . exact BM m hs hl h0 false G head
 . exact⟨t,c,m,hs,hl,h0⟩
theorem Ib (m:Mid N L n s d D τ t c) (hs:jr P t0 t) (hl:Tl P tl t0 t τ.aQ) (G:Nat):TO N L (n+1) s d D P Q t0 tl (τ.lost G):=by
 unfold St.lost
 split
 . refine⟨t,c,m.give G,hs,?_,trivial⟩
   rw[(oK τ G).2.2.2.2.2.2.1];exact hl
 . exact⟨t,c,m.mono (pQ _),hs,hl,trivial⟩
theorem Mid.Mq (m:Mid N L n s d D τ t c) (hs:t=t0) (ht:τ.aQ=tl) {tq:Nat} (hto:tq<=2000) (hp:P tq):∃ t2,Mid N L (n+1) s d D (τ.bind s tq) t2 c∧jr P t0 t2∧Tl P tl t0 t2 (τ.bind s tq).aQ:=by
 subst hs;obtain⟨t2,m2,-⟩:=m.bind tq hto;refine⟨t2,m2,?_⟩;have e:(τ.bind s tq).t s=t2:=m2.et;have e2:τ.t s=t:=m.et;unfold St.bind at e ⊢;rw[e2] at e ⊢
 split at e
 . rename_i h1
   rw[aW h1];rw[<-e,e2];exact⟨jr.refl t,.inl ⟨rfl,ht⟩⟩
 . rename_i h1
   rw[bu h1];have:(τ.bM s {t with aR:=t.aR++[tq]}).t s={t with aR:=t.aR++[tq]}:=by
    unfold St.t St.bM;simp only;rw[aS _ _ _ _ (by rw[m.sh.t8];exact m.s8),aW rfl];rfl
   rw[<-e,show ((τ.bM s {t with aR:=t.aR++[tq]}).event _).t s=(τ.bM s {t with aR:=t.aR++[tq]}).t s from rfl,this];exact⟨⟨rfl,rfl,rfl,rfl,rfl,.inr ⟨tq,hp,h1,rfl⟩⟩,.inr ⟨tq,hp,h1,rfl,by show τ.aQ++[_]=_;rw[ht]⟩⟩
theorem Ej {o:En.Op} (h:nX o=true):o.F<64:=by
 unfold nX at h
 split at h<;>first|(cases h;done)|(simp only[gT,zd,beq_iff_eq] at h;omega)
set_option maxHeartbeats 3200000 in
theorem Ru (m:Mid N L n s 0 D D t c) {k:K} (Y:xh N L t c k) (hA:Pf k=true) (hT:KT P Q t k)
 (hB:∀ id,id<=2000->id≠t.id->bA (D.word (D.place id))=2->il (D.word (D.place id))≠0->∀ h:dR,HT t h->il (D.word (D.place id))<=h.at_->P id) (hQ:Q (D.word 0)):RT N L (n+2) s D P Q t D.aQ (D.run s k):=by
 have mt:=m.tick;have et:=m.et;have ec:=m.ec;have r0:jr P t t:=jr.refl t;have gM:Tl P D.aQ t t D.tick.aQ:=.inl ⟨rfl,rfl⟩;have hck:=Ej m.op
 cases k with
 |fin r=>
  exact⟨t,_,0,(m.mono (by omega)).aM {D.c s with r:=r,over:=true} ⟨by rw[ec],by rw[ec]⟩,r0,.inl ⟨rfl,rfl⟩,fun k e=>by cases e⟩
 |start h=>exact (Eh mt r0 gM Y hck hT _).rt (by omega)
 |visit h G=>
  refine TO.rt (r:=(_,_)) (n:=n) ⟨t,c,mt,r0,gM,?_⟩ (by omega);show KT P Q t (D.kK s h G _);unfold St.kK;rw[et]
  split
  . exact⟨hT,.inl rfl⟩
  split
  . exact hT
  . rename_i h2
    exact⟨hT,fun e=>h2 (.inr e)⟩
 |older h G=>exact (Eh mt r0 gM Y.1 hck hT _).rt (by omega)
 |maker h G id=>
  obtain⟨hT1,JN⟩:=hT;simp only[St.run]
  split
  . exact TO.rt (r:=(_,_)) (n:=n) ⟨t,c,mt,r0,gM,hT1⟩ (by omega)
  split
  . rename_i h1 h2
    refine TO.rt (r:=(_,_)) (n:=n) ⟨t,c,mt,r0,gM,hT1,.inr (hB id Y.2.2 JN h2 (fun e=>h1 (.inl e)) h hT1 ?_)⟩ (by omega);exact Nat.le_of_not_lt fun e=>h1 (.inr (.inl e))
  . exact TO.rt (r:=(_,_)) (n:=n) ⟨t,c,mt,r0,gM,hT1,.inl rfl⟩ (by omega)
 |ended h G mb=>
  obtain⟨hT1,JN⟩:=hT;simp only[St.run]
  split
  . exact TO.rt (r:=(_,_)) (n:=n) ⟨t,c,mt,r0,gM,hT1⟩ (by omega)
  split
  . exact (Ia mt r0 gM Y.1 hck hT1 G JN).rt (by omega)
  . rename_i h2
    refine TO.rt (r:=(_,_)) (n:=n) ⟨t,c,mt,r0,gM,hT1,JN,fun e=>h2 (.inr ?_)⟩ (by omega);rw[mt.et];exact e
 |ik h G mb id=>
  obtain⟨hT1,JN,Zk⟩:=hT;simp only[St.run]
  split
  . exact (Ia mt r0 gM Y.1 hck hT1 G JN).rt (by omega)
  split
  . rename_i h1 h2
    have hP:=hB id Y.2.2.2 Zk h2 (fun e=>h1 (.inl e)) h hT1 (Nat.le_of_not_lt fun e=>h1 (.inr (.inl e)));obtain⟨t2,m2,f1,f2⟩:=mt.Mq (tl:=D.aQ) rfl rfl Y.2.2.2 hP;exact TO.rt (r:=(_,_)) ⟨t2,c,m2,f1,f2,hT1⟩ (by omega)
  . exact TO.rt (r:=(_,_)) (n:=n) ⟨t,c,mt,r0,gM,hT1⟩ (by omega)
 |seen h G mb=>
  obtain⟨hT1,JN⟩:=hT;simp only[St.run]
  split
  . exact TO.rt (r:=(_,_)) (n:=n) ⟨t,c,mt,r0,gM,hT1⟩ (by omega)
  . split
    . rename_i h1 h2
      obtain⟨t2,m2,f1,f2⟩:=mt.Mq (tl:=D.aQ) rfl rfl Y.2.2 JN;obtain⟨t3,m3,e1,e2,-⟩:=mt.bind mb Y.2.2;have e3:t3=t2:=m3.et.symm.trans m2.et;subst e3;exact (mZ m2 f1 f2 (oL Y.1 e1 e2) hck hT1 G).rt (by omega)
    . exact (mZ mt r0 gM Y.1 hck hT1 G).rt (by omega)
 |again en=>
  obtain⟨h1,h2,x,hx,hxo⟩:=Y;have ex:D.x s c.op.F=x:=by unfold St.x;rw[et,hx];rfl
  simp only[St.run,ec,ex];have m1:=m.put (iZ (w:=1) hxo (by omega) h1 h2);have m2:=m1.bM (qM m1.t1 c.op.F {x with there:=(c.op.kind !=4)} (m.t1.cell hx).1 (m.t1.cell hx).2.1 (fun _=>hxo));have e3:((D.put (af x.own 1) en).c s).op.kind=c.op.kind:=by rw[m1.ec]
  have e4:((D.put (af x.own 1) en).gI s c.op.F {x with there:=(c.op.kind !=4)})=((D.put (af x.own 1) en).bM s {t with cells:=upd t.cells c.op.F {x with there:=(c.op.kind !=4)}}):=by unfold St.gI;rw[m1.et]
  rw[e3,e4]
  split
  . exact TO.rt (r:=(_,_)) ⟨_,c,m2.vals _ _,⟨rfl,rfl,rfl,rfl,rfl,.inl rfl⟩,.inl ⟨rfl,rfl⟩,hT⟩ (by omega)
  . exact TO.rt (r:=(_,_)) ⟨_,c,m2,⟨rfl,rfl,rfl,rfl,rfl,.inl rfl⟩,.inl ⟨rfl,rfl⟩,hT⟩ (by omega)
 |own G=>
  simp only[St.run]
  split
  . exact TO.rt (r:=(_,_)) ⟨t,c,mt,r0,gM,hT⟩ (by omega)
  split
  . exact TO.rt (r:=(_,_)) ⟨t,c,mt,r0,gM,hT⟩ (by omega)
  . exact TO.rt (r:=(_,_)) ⟨t,c,mt,r0,gM,trivial⟩ (by omega)
 |iw G w id=>
  simp only[St.run]
  split
  . exact TO.rt (r:=(_,_)) ⟨t,c,mt,r0,gM,trivial⟩ (by omega)
  . exact TO.rt (r:=(_,_)) ⟨t,c,mt,r0,gM,hT⟩ (by omega)
 |claim G w=>
  obtain⟨hl,hx,hkk⟩:=Y;have m1:=m.cB (o:=w) (iZ (L:=L) (w:=1) hl (by omega) (nS m.t1) (nR m.t1));have Pg:Tl P D.aQ t t (D.cB (af G 1) w (mine t)).aQ:=by unfold St.cB;split<;>exact .inl ⟨rfl,rfl⟩
  simp only[St.run,et]
  split
  . exact TO.rt (r:=(_,_)) ⟨t,c,m1,r0,Pg,hT⟩ (by omega)
  . have m2:=(m1.mono (pQ n)).bM (qL m1.t1 c.op.F ⟨0,G,false⟩ (.inl rfl) (.inr hl) (by simp))
    have e1:(D.cB (af G 1) w (mine t)).bS s ((D.cB (af G 1) w (mine t)).c s).op.F ⟨0,G,false⟩=(D.cB (af G 1) w (mine t)).bM s {t with cells:=(c.op.F,⟨0,G,false⟩)::t.cells,keys:=t.keys++[c.op.F]}:=by
     unfold St.bS;rw[m1.et,m1.ec]
    rw[e1,m2.ec];have r1:jr P t {t with cells:=(c.op.F,⟨0,G,false⟩)::t.cells,keys:=t.keys++[c.op.F]}:=⟨rfl,rfl,rfl,rfl,rfl,.inl rfl⟩
    split
    . exact TO.rt (r:=(_,_)) ⟨_,c,m2,r1,Pg,hT⟩ (by omega)
    . exact (BM m2 r1 Pg hT true 0 0).rt (by omega)
 |fresh G=>
  simp only[St.run,ec];exact (Ei mt r0 gM hT G _ _).rt (by omega)
 |next G head at_=>exact (Ei mt r0 gM hT G head _).rt (by omega)
 |free G head at_=>
  simp only[St.run]
  split
  . exact TO.rt (r:=(_,_)) ⟨t,c,mt,r0,gM,hT⟩ (by omega)
  split
  . exact (Ib mt r0 gM G).rt (by omega)
  . exact TO.rt (r:=(_,_)) ⟨t,c,mt,r0,gM,hT⟩ (by omega)
 |dX G head at_ id=>
  simp only[St.run]
  split
  . exact TO.rt (r:=(_,_)) ⟨t,c,mt,r0,gM,hT⟩ (by omega)
  . exact (Ib mt r0 gM G).rt (by omega)
 |fJ x G head=>
  obtain⟨hl,hkk,hx⟩:=Y;simp only[St.run,et];exact TO.rt (r:=(_,_)) ⟨t,c,m.put (iZ hl (by omega) (nS m.t1) (nR m.t1)),r0,.inl ⟨rfl,rfl⟩,hT⟩ (by omega)
 |eU x G head=>
  obtain⟨hl,hkk,hx⟩:=Y;simp only[St.run];refine TO.rt (r:=(_,_)) ⟨t,c,m.put (iZ hl (by omega) (by decide) tC),r0,.inl ⟨rfl,rfl⟩,?_⟩ (by omega)
  cases x<;>exact hT
 |push G head=>
  obtain⟨hl,hh,hx,hkk⟩:=Y;exact TO.rt (r:=(_,_)) ⟨t,c,m.put (pE hl hh),r0,.inl ⟨rfl,rfl⟩,hT⟩ (by omega)
 |dV G head=>
  obtain⟨hl,hh,hx,hkk⟩:=Y;have m1:=m.cB (o:=head) (pF (L:=L) hkk (.inr hl));have Pg:Tl P D.aQ t t (D.cB (9+c.op.F) head G).aQ:=by unfold St.cB;split<;>exact .inl ⟨rfl,rfl⟩
  simp only[St.run,ec]
  split
  . exact TO.rt (r:=(_,_)) ⟨t,c,m1,r0,Pg,hT⟩ (by omega)
  . have m2:=(m1.mono (pQ n)).bM (qL m1.t1 c.op.F ⟨G,0,true⟩ (.inr hl) (.inl rfl) (fun _=>hl))
    have e1:(D.cB (9+c.op.F) head G).bS s c.op.F ⟨G,0,true⟩=(D.cB (9+c.op.F) head G).bM s {t with cells:=(c.op.F,⟨G,0,true⟩)::t.cells,keys:=t.keys++[c.op.F]}:=by
     unfold St.bS;rw[m1.et]
    rw[e1];exact TO.rt (r:=(_,_)) ⟨_,c,m2,⟨rfl,rfl,rfl,rfl,rfl,.inl rfl⟩,Pg,hT⟩ (by omega)
 |over G=>
  simp only[St.run,ec];exact TO.rt (r:=(_,_)) ⟨t,c,mt,r0,gM,hT⟩ (by omega)
 |iB G head=>
  obtain⟨hl,hh,hx,hkk⟩:=Y;exact TO.rt (r:=(_,_)) ⟨t,c,m.put (pE hl hh),r0,.inl ⟨rfl,rfl⟩,hT⟩ (by omega)
 |eu G head=>
  obtain⟨hl,hh,hx,hkk⟩:=Y;have m1:=m.cB (o:=head) (pF (L:=L) hkk (.inr hl));have Pg:Tl P D.aQ t t (D.cB (9+c.op.F) head G).aQ:=by unfold St.cB;split<;>exact .inl ⟨rfl,rfl⟩
  obtain⟨x,hx⟩:=ou.1 hx;simp only[St.run,ec]
  split
  . exact TO.rt (r:=(_,_)) ⟨t,c,m1,r0,Pg,hT⟩ (by omega)
  . have ex:(D.cB (9+c.op.F) head G).x s c.op.F=x:=by unfold St.x;rw[m1.et,hx];rfl
    rw[ex];have m2:=m1.bM (qM m1.t1 c.op.F {x with own:=G,there:=true} (.inr hl) (m.t1.cell hx).2.1 (fun _=>hl));have e4:(D.cB (9+c.op.F) head G).gI s c.op.F {x with own:=G,there:=true}=(D.cB (9+c.op.F) head G).bM s {t with cells:=upd t.cells c.op.F {x with own:=G,there:=true}}:=by unfold St.gI;rw[m1.et]
    rw[e4];exact TO.rt (r:=(_,_)) ⟨_,c,m2,⟨rfl,rfl,rfl,rfl,rfl,.inl rfl⟩,Pg,hT⟩ (by omega)
 |draw=>
  simp only[St.run]
  split
  . exact TO.rt (r:=(_,_)) ⟨t,c,mt,r0,gM,trivial⟩ (by omega)
  split
  . exact TO.rt (r:=(_,_)) ⟨t,c,mt,r0,gM,hT,rfl,hQ⟩ (by omega)
  . rename_i h2
    exact TO.rt (r:=(_,_)) ⟨t,c,mt,r0,gM,hT,rfl,h2,hQ⟩ (by omega)
 |wait i=>
  simp only[St.run]
  split
  . refine TO.rt (r:=(_,_)) ⟨t,c,mt,r0,gM,?_⟩ (by omega)
    show KT P Q t (jT (D.tick.t s) (i+1));unfold jT
    split<;>exact hT
  split
  . exact TO.rt (r:=(_,_)) ⟨t,c,mt,r0,gM,trivial⟩ (by omega)
  . exact TO.rt (r:=(_,_)) ⟨t,_,mt.aM _ ⟨by rw[mt.ec],by rw[mt.ec]⟩,r0,gM,hT⟩ (by omega)
 |eX w now=>cases hA
 |turn w now=>cases hA
 |eB=>cases hA
 |cZ=>cases hA
 |abort e r=>cases hA
 |turns l r=>cases hA
end
def iV (D:St) (b:Nat):Prop:=bA (D.word (D.place b))=3∨bA (D.word (D.place b))=4
def lim (t:bL):Nat:=if t.ay=0 then t.aJ else t.ay
def qZ (D:St) (t:bL) (b:Nat):Prop:=1<=b∧b<=D.aB∧b≠t.id∧(iV D b∨∃ s' t',D.ai.getD s' none=some t'∧t'.id=b∧t'.ay≠0∧t'.ay<=lim t)
def mF (D:St) (w:Nat):Prop:=aZ w<=D.aB∧aj w<=aj (D.word 0)∧∀ s t,D.ai.getD s none=some t->t.id=aZ w->t.ay=aj w∧t.ay≠0
def PW (w:Nat) (t:bL) (k:Option K):Prop:=(∃ l r,k=some (.turns l r)∧(r.over=3∨r.over=4)∧w=pack r.over t.ay)∨((∀ l r,k≠some (.turns l r))∧((w=pack 1 0∧(t.ay=0∨k=some .eB))∨(w=pack 2 t.ay∧t.ay≠0)))
def _root_.Go.Proofs.YthicolbbmjfkfaaGreat.En.St.gY (D:St) (s:Nat):Option K:=(D.calls.getD s none).bind (·.k)
structure TI (D:St):Prop where
 uq:∀ s s' t t',D.ai.getD s none=some t->D.ai.getD s' none=some t'->t.id=t'.id->s=s'
 ip:∀ s t,D.ai.getD s none=some t->1<=t.id∧t.id<=D.aB
 bg:∀ s t,D.ai.getD s none=some t->1<=t.aJ∧t.aJ<=aj (D.word 0)∧t.ay<=aj (D.word 0)∧(t.ay≠0->t.aJ<t.ay)
 ne:∀ s s' t t',D.ai.getD s none=some t->D.ai.getD s' none=some t'->s≠s'->t.ay≠0->t.ay≠t'.ay
 wd:∀ s t,D.ai.getD s none=some t->PW (D.word (D.place t.id)) t (D.gY s)
 dd:∀ id,1<=id->id<=D.aB->(∀ s t,D.ai.getD s none=some t->t.id≠id)->iV D id
 ub:∀ id,id=0∨D.aB<id->id<=2000->D.word (D.place id)=0
 ck:mF D (D.word 0)
 kk:∀ s t k,D.ai.getD s none=some t->D.gY s=some k->(∃ l r,k=.turns l r)∨KT (qZ D t) (mF D) t k
 Ul:∀ s t,D.ai.getD s none=some t->D.gY s=none->t.ay=0
 bo:∀ s t,D.ai.getD s none=some t->t.aR.Nodup∧∀ b∈t.aR,qZ D t b
section
variable {N L n s q cq d:Nat} {D τ υ aC:St} {t t0 t2 u u2:bL} {c:dY} {P P' Q Q':Nat->Prop} {tl:List Ev}
theorem KT.mono (hP:∀ b,P b->P' b) (hq:∀ w,Q w->Q' w) (e1:t2.aJ=t.aJ) (e2:t2.ay=t.ay) (e3:t2.id=t.id) {k:K} (Y:KT P Q t k):KT P' Q' t2 k:=by
 have hh:∀ {h:dR},HT t h->HT t2 h:=by
  intro h hx;unfold HT at hx ⊢
  split at hx<;>(rw[e2];first|exact hx|(rw[e1];exact hx))
 cases k with
 |start h=>exact hh Y
 |visit h l=>exact hh Y
 |older h l=>exact hh Y
 |maker h l id=>exact⟨hh Y.1,by rw[e3];exact Y.2⟩
 |ended h l mb=>exact⟨hh Y.1,Y.2.imp (fun x=>x) (hP mb)⟩
 |ik h l mb id=>exact⟨hh Y.1,Y.2.1.imp (fun x=>x) (hP mb),by rw[e3];exact Y.2.2⟩
 |seen h l mb=>exact⟨hh Y.1,hP mb Y.2⟩
 |turn w now=>exact⟨e2.trans Y.1,Y.2.1,hq w Y.2.2⟩
 |eX w now=>exact⟨e2.trans Y.1,Y.2.1,Y.2.2.1,hq w Y.2.2.2⟩
 |eB=>show t2.ay≠0;rw[e2];exact Y
 |wait i=>show t2.ay≠0;rw[e2];exact Y
 |cZ=>show t2.ay≠0;rw[e2];exact Y
 |abort e r=>trivial
 |turns l r=>exact Y
 |_=>exact e2.trans Y
structure Rel (D τ:St) (s:Nat) (t t2:bL):Prop where
 aB:τ.aB=D.aB
 aG:τ.aG=D.aG
 ox:∀ q,q≠s->τ.ai.getD q none=D.ai.getD q none
 oc:∀ q,q≠s->τ.calls.getD q none=D.calls.getD q none
 tx:D.ai.getD s none=some t
 id:t2.id=t.id
 bg:t2.aJ=t.aJ
 en:t.ay≠0->t2.ay=t.ay
 now:aj (D.word 0)<=aj (τ.word 0)
 st:∀ b,iV D b->iV τ b
 al:τ.ai.getD s none=some t2∨(τ.ai.getD s none=none∧iV τ t.id)
theorem Rel.place (be:Rel D τ s t t2) (id:Nat):τ.place id=D.place id:=by unfold St.place;rw[be.aG]
theorem Rel.alive (be:Rel D τ s t t2) {q:Nat} (h:τ.ai.getD q none=some u):(q≠s∧D.ai.getD q none=some u)∨(q=s∧u=t2):=by
 by_cases e:q=s
 . subst e
   rcases be.al with h2|h2
   . rw[h] at h2;exact .inr ⟨rfl,zj h2⟩
   . rw[h] at h2;cases h2.1
 . rw[be.ox q e] at h;exact .inl ⟨e,h⟩
theorem Rel.bnd (be:Rel D τ s t t2) {b:Nat} (h:qZ D u b) (hl:lim u<=lim u2) (hi:u2.id=u.id):qZ τ u2 b:=by
 obtain⟨h1,h2,h3,h4⟩:=h;refine⟨h1,by rw[be.aB];exact h2,by rw[hi];exact h3,?_⟩
 rcases h4 with h4|⟨s',t',g1,g2,g3,g4⟩
 . exact .inl (be.st b h4)
 . by_cases e:s'=s
   . subst e
     rw[be.tx] at g1;obtain rfl:=zj g1
     rcases be.al with h5|h5
     . exact .inr ⟨s',t2,h5,be.id.trans g2,by rw[be.en g3];exact g3,by rw[be.en g3];omega⟩
     . exact .inl (by rw[<-g2];exact h5.2)
   . exact .inr ⟨s',t',by rw[be.ox s' e];exact g1,g2,g3,by omega⟩
theorem Rel.ck (be:Rel D τ s t t2) {w:Nat} (h:mF D w):mF τ w:=by
 obtain⟨h1,h2,h3⟩:=h;refine⟨by rw[be.aB];exact h1,fq h2 be.now,fun q u hu hi=>?_⟩
 rcases be.alive hu with ⟨_,hq⟩|⟨rfl,rfl⟩
 . exact h3 q u hq hi
 . obtain⟨g1,g2⟩:=h3 q t be.tx (be.id.symm.trans hi)
   rw[be.en g2];exact⟨g1,g2⟩
theorem TI.next (h:TI D) (be:Rel D τ s t t2)
 (hbg:t2.ay<=aj (τ.word 0)∧(t2.ay≠0->t2.aJ<t2.ay))
 (hne:t2.ay=t.ay∨aj (D.word 0)<t2.ay)
 (hwo:∀ q u,q≠s->D.ai.getD q none=some u->PW (D.word (D.place u.id)) u (D.gY q)->PW (τ.word (D.place u.id)) u (D.gY q))
 (hws:τ.ai.getD s none=some t2->PW (τ.word (D.place t.id)) t2 (τ.gY s))
 (hub:∀ id,id=0∨D.aB<id->id<=2000->τ.word (D.place id)=0)
 (hck:mF τ (τ.word 0))
 (hkk:∀ k,τ.ai.getD s none=some t2->τ.gY s=some k->(∃ l r,k=.turns l r)∨KT (qZ τ t2) (mF τ) t2 k)
 (hid:τ.ai.getD s none=some t2->τ.gY s=none->t2.ay=0)
 (PZ:t2.aR.Nodup∧∀ b∈t2.aR,qZ τ t2 b):TI τ:=by
 have hko:∀ q,q≠s->τ.gY q=D.gY q:=fun q hq=>by unfold St.gY;rw[be.oc q hq]
 have hT:=h.bg s t be.tx;refine⟨fun q q' u u' hu hu' hi=>?_,fun q u hu=>?_,fun q u hu=>?_,fun q q' u u' hu hu' hq he=>?_,fun q u hu=>?_,fun id h1 h2 h3=>?_,fun id h1 h2=>?_,hck,fun q u k hu Y=>?_,fun q u hu Y=>?_,fun q u hu=>?_⟩
 . rcases be.alive hu with ⟨e,g⟩|⟨rfl,rfl⟩<;>rcases be.alive hu' with ⟨e',g'⟩|⟨rfl,rfl⟩
   . exact h.uq q q' u u' g g' hi
   . exact absurd (h.uq q q' u t g be.tx (hi.trans be.id)) e
   . exact absurd (h.uq q q' t u' be.tx g' (be.id.symm.trans hi)).symm e'
   . rfl
 . rw[be.aB]
   rcases be.alive hu with ⟨e,g⟩|⟨rfl,rfl⟩
   . exact h.ip q u g
   . rw[be.id];exact h.ip q t be.tx
 . rcases be.alive hu with ⟨e,g⟩|⟨rfl,rfl⟩
   . have h1:=h.bg q u g
     have:=be.now;exact⟨h1.1,by omega,by omega,h1.2.2.2⟩
   . have:=be.now
     rw[be.bg] at hbg ⊢;exact⟨hT.1,by omega,hbg⟩
 . rcases be.alive hu with ⟨e,g⟩|⟨rfl,rfl⟩<;>rcases be.alive hu' with ⟨e',g'⟩|⟨rfl,rfl⟩
   . exact h.ne q q' u u' g g' hq he
   . have:=h.bg q u g
     rcases hne with hne|hne
     . rw[hne];exact h.ne q q' u t g be.tx hq he
     . omega
   . have:=h.bg q' u' g'
     rcases hne with hne|hne
     . rw[hne] at he ⊢;exact h.ne q q' t u' be.tx g' hq he
     . omega
   . exact absurd rfl hq
 . rw[be.place]
   rcases be.alive hu with ⟨e,g⟩|⟨rfl,rfl⟩
   . rw[hko q e];exact hwo q u e g (h.wd q u g)
   . rw[be.id];exact hws hu
 . rw[be.aB] at h2
   by_cases e:id=t.id
   . rcases be.al with h5|h5
     . exact absurd (be.id.trans e.symm) (h3 s t2 h5)
     . rw[e];exact h5.2
   . refine be.st id (h.dd id h1 h2 (fun q u hu hi=>?_))
     by_cases eq:q=s
     . subst eq
       rw[be.tx] at hu;obtain rfl:=zj hu;exact e hi.symm
     . exact h3 q u (by rw[be.ox q eq];exact hu) hi
 . rw[be.aB] at h1
   rw[be.place];exact hub id h1 h2
 . rcases be.alive hu with ⟨e,g⟩|⟨rfl,rfl⟩
   . rw[hko q e] at Y
     exact (h.kk q u k g Y).imp (fun x=>x) (fun x=>x.mono (fun b Z=>be.bnd Z (zr _) rfl) (fun w hw=>be.ck hw) rfl rfl rfl)
   . exact hkk k hu Y
 . rcases be.alive hu with ⟨e,g⟩|⟨rfl,rfl⟩
   . rw[hko q e] at Y;exact h.Ul q u g Y
   . exact hid hu Y
 . rcases be.alive hu with ⟨e,g⟩|⟨rfl,rfl⟩
   . exact⟨(h.bo q u g).1,fun b Z=>be.bnd ((h.bo q u g).2 b Z) (zr _) rfl⟩
   . exact PZ
theorem fC {x e:Nat} (h:x<8):bA (pack x e)=x:=by unfold bA pack;omega
theorem Mr {x e:Nat} (h:x<8):il (pack x e)=e:=by unfold il pack;omega
theorem TI.Wp (h:TI D) {id:Nat} (hid:id<=2000) (h2:bA (D.word (D.place id))=2):∃ s t,D.ai.getD s none=some t∧t.id=id∧t.ay≠0∧t.ay=il (D.word (D.place id)):=by
 by_cases h0:id=0∨D.aB<id
 . rw[h.ub id h0 hid] at h2;cases h2
 . refine Classical.byContradiction fun hn=>?_
   have h3:∀ s t,D.ai.getD s none=some t->t.id≠id:=by
    intro s t ht hi;subst hi
    rcases h.wd s t ht with ⟨l,r,_,h4,h5⟩|⟨_,h4|h4⟩
    . rw[h5,fC (by omega)] at h2;omega
    . rw[h4.1,fC (by omega)] at h2;omega
    . exact hn ⟨s,t,ht,rfl,h4.2,by rw[h4.1,Mr (by omega)]⟩
   rcases h.dd id (by omega) (by omega) h3 with h4|h4<;>omega
theorem HT.lim {h:dR} (hh:HT t h):h.at_=lim t:=by
 unfold HT at hh;unfold Cw.lim
 split at hh
 . rw[bu hh.2];exact hh.1
 . rw[aW hh.2];exact hh.1
theorem TI.hB (h:TI D):∀ id,id<=2000->id≠t.id->bA (D.word (D.place id))=2->il (D.word (D.place id))≠0->∀ h:dR,HT t h->il (D.word (D.place id))<=h.at_->qZ D t id:=by
 intro id hid hne h2 h0 hu hh hl;obtain⟨s,t',g1,g2,g3,g4⟩:=h.Wp hid h2;have:=h.ip s t' g1;refine⟨by omega,by omega,hne,.inr ⟨s,t',g1,g2,g3,?_⟩⟩;rw[g4,<-hh.lim];exact hl
end
section
variable {N L n s q cq d kd:Nat} {D τ υ aC aK:St} {t t0 t2 u u2:bL} {c c2:dY} {r:mo} {k:K} {ok:Option K}
theorem Stp.w (p:Stp N L n s D aC kd r t c k aK ok t2 c2) (i:Nat):aC.word i=aK.word i:=by
 obtain⟨l,cs,ts,tl,e⟩:=p.e1;rw[e];rfl
theorem Stp.runs (p:Stp N L n s D aC kd r t c k aK ok t2 c2):aK.words=setW (D.aM s {c with waits:=false}) (wr (D.aM s {c with waits:=false}) s k)∧aK.aG=D.aG:=by
 have:=uF (D.aM s {c with waits:=false}) s k;rw[p.run] at this;exact this
theorem Stp.aG (p:Stp N L n s D aC kd r t c k aK ok t2 c2):aC.aG=D.aG:=by
 obtain⟨l,cs,ts,tl,e⟩:=p.e1;rw[e];exact p.runs.2
theorem Stp.aB (p:Stp N L n s D aC kd r t c k aK ok t2 c2):aC.aB=D.aB:=by
 obtain⟨l,cs,ts,tl,e⟩:=p.e1;obtain⟨d,m2⟩:=p.m2;rw[e];exact m2.md
theorem Stp.yH (p:Stp N L n s D aC kd r t c k aK ok t2 c2):D.gY s=some k:=by unfold St.gY;rw[p.ca];exact p.ck
theorem Stp.lh (p:Stp N L n s D aC kd r t c k aK ok t2 c2) {k':K} (e:ok=some k'):aC.gY s=some k':=by unfold St.gY;rw[(p.go k' e).2.2.1];rfl
theorem Stp.Jm (p:Stp N L n s D aC kd r t c k aK ok t2 c2) (e:ok=none):aC.gY s=none:=by unfold St.gY;rw[(p.no e).2.2.1];rfl
theorem Stp.tt (p:Stp N L n s D aC kd r t c k aK ok t2 c2) {x:bL} (e:aK.ai.getD s none=some x):t2=x:=by
 obtain⟨d,m2⟩:=p.m2;rw[m2.tx] at e;exact zj e
theorem Stp.rP (p:Stp N L n s D aC kd r t c k aK ok t2 c2) (h:wr (D.aM s {c with waits:=false}) s k=none) (i:Nat):aC.word i=D.word i:=by
 rw[p.w];have e:=p.runs.1;rw[h] at e;exact qP e i
theorem Stp.jS (p:Stp N L n s D aC kd r t c k aK ok t2 c2) {j v:Nat} (h:wr (D.aM s {c with waits:=false}) s k=some (j,v)) (i:Nat):(i≠j->aC.word i=D.word i)∧(j<D.words.length->aC.word j=v):=by
 have e:=p.runs.1;rw[h] at e;refine⟨fun hi=>?_,fun hj=>?_⟩
 . rw[p.w];exact iU e i hi
 . rw[p.w];exact BG e hj
theorem Rv (Y:xh N L t c k) (hA:Pf k=true) (et:D.t s=t) (ec:D.c s=c) {i v:Nat} (h:wr D s k=some (i,v)) (hck:c.op.F<64):9<=i∧i<73+N*3:=by
 have hin:∀ {l w},LK N l->w<3->9<=af l w∧af l w<73+N*3:=fun {l w} hl hw=>by have:=hl.ag;unfold af;omega
 cases k with
 |again e=>
  obtain⟨h1,h2,x,hx,hxo⟩:=Y;have ex:D.x s c.op.F=x:=by unfold St.x;rw[et,hx];rfl
  simp only[wr,ec,ex] at h;obtain⟨rfl,-⟩:=jw _ _ _ _ ▸ zj h;exact hin hxo (by omega)
 |claim l w=>
  simp only[wr] at h
  split at h
  . obtain⟨rfl,-⟩:=jw _ _ _ _ ▸ zj h
    exact hin Y.1 (by omega)
  . cases h
 |fJ x l h'=>
  obtain⟨rfl,-⟩:=jw _ _ _ _ ▸ zj h;exact hin Y.1 (by omega)
 |eU x l h'=>
  obtain⟨rfl,-⟩:=jw _ _ _ _ ▸ zj h;exact hin Y.1 (by omega)
 |push l h'=>
  obtain⟨rfl,-⟩:=jw _ _ _ _ ▸ zj h;exact hin Y.1 (by omega)
 |iB l h'=>
  obtain⟨rfl,-⟩:=jw _ _ _ _ ▸ zj h;exact hin Y.1 (by omega)
 |dV l h'=>
  simp only[wr,ec] at h
  split at h
  . obtain⟨rfl,-⟩:=jw _ _ _ _ ▸ zj h
    omega
  . cases h
 |eu l h'=>
  simp only[wr,ec] at h
  split at h
  . obtain⟨rfl,-⟩:=jw _ _ _ _ ▸ zj h
    omega
  . cases h
 |eX w now=>cases hA
 |turn w now=>cases hA
 |eB=>cases hA
 |cZ=>cases hA
 |abort e r=>cases hA
 |turns l r=>cases hA
 |_=>cases h
theorem xP (hA:Pf k=true) (h:(D.run s k).2=none):∃ r,k=.fin r:=by
 cases k with
 |fin r=>exact⟨r,rfl⟩
 |eX w now=>cases hA
 |turn w now=>cases hA
 |eB=>cases hA
 |cZ=>cases hA
 |abort e r=>cases hA
 |turns l r=>cases hA
 |start h'=>cases h
 |visit h' l=>cases h
 |older h' l=>cases h
 |fresh l=>cases h
 |next l a b=>cases h
 |push l a=>cases h
 |over l=>cases h
 |iB l a=>cases h
 |fJ x l a=>cases h
 |eU x l a=>cases h
 |again e=>cases h
 |_=>simp only[St.run] at h;repeat (split at h<;>first|(cases h;done)|skip)
theorem TI.Ms (h:TI D) (hw:WF N L n D) (p:Stp N L n s D aC kd r t c k aK ok t2 c2) (hA:Pf k=true):TI aC∧jr (qZ D t) t t2∧Tl (qZ D t) D.aQ t t2 aK.aQ∧aC.ai.getD s none=some t2:=by
 have hk0:=p.yH;have yl:KT (qZ D t) (mF D) t k:=by
  rcases h.kk s t k p.tx hk0 with ⟨l,r,rfl⟩|hx
  . cases hA
  . exact hx
 have hnt:∀ l r,k≠.turns l r:=by rintro l r rfl;cases hA
 have hrt:=Ru (P:=qZ D t) (Q:=mF D) p.m p.Ca hA yl h.hB h.ck;rw[p.run] at hrt;obtain⟨t',c',d',m',hs,hl,hn⟩:=hrt;have e:=p.tt m'.tx;subst e;have hck:c.op.F<64:=Ej p.m.op;have hwd:∀ i,(i<9∨73+N*3<=i)->aC.word i=D.word i:=by
  intro i hi
  cases e:wr (D.aM s {c with waits:=false}) s k with
  |none=>exact p.rP e i
  |some jv=>
   obtain⟨j,v⟩:=jv;have:=Rv p.Ca hA p.m.et p.m.ec e hck;exact (p.jS e i).1 (by omega)
 have hpl:∀ id,aC.word (D.place id)=D.word (D.place id):=fun id=>hwd _ (by rw[hw.sh.place];omega)
 have h0:=hwd 0 (by omega);have hal:aC.ai.getD s none=some t2:=by
  cases ok with
  |some k'=>exact (p.go k' rfl).2.2.2.1
  |none=>
   obtain⟨r',hr'⟩:=xP hA (by rw[p.run]);subst hr'
   rcases (p.no rfl).2.2.2 with ⟨_,g,_⟩|⟨g,_⟩
   . exact g
   . exfalso
     obtain⟨d,m2⟩:=p.m2;have e1:=p.run;simp only[St.run] at e1;obtain⟨e1,-⟩:=jw _ _ _ _ ▸ e1;have e2:(aK.c s).r.over=0:=by
      rw[<-e1];unfold St.finish St.c St.aM;simp only;rw[aS _ _ _ _ (by show s<(D.calls.set s _).length;rw[nD,hw.sh.c8];exact p.m.s8),aW rfl];exact p.Ca.1
     rw[m2.ec] at e2;exact g e2
 have hpl':∀ id,aC.place id=D.place id:=fun id=>by unfold St.place;rw[p.aG]
 have be:Rel D aC s t t2:=⟨p.aB,p.aG,p.ox,p.oc,p.tx,hs.id,hs.bg,fun _=>hs.en,by rw[h0];exact zr _,fun b Z=>by unfold iV at Z ⊢;rw[hpl',hpl];exact Z,.inl hal⟩
 have hlim:lim t2=lim t:=by unfold lim;rw[hs.en,hs.bg]
 have hbg:=h.bg s t p.tx;refine⟨h.next be ⟨by rw[hs.en,h0];exact hbg.2.2.1,by rw[hs.en,hs.bg];exact hbg.2.2.2⟩ (.inl hs.en) (fun q u _ _ hp=>by rw[hpl];exact hp) (fun _=>?_) (fun id h1 h2=>by rw[hpl];exact h.ub id h1 h2) (by rw[h0];exact be.ck h.ck) (fun k' _ hk'=>?_) (fun _ hk'=>?_) ?_,hs,hl,hal⟩
 . rw[hpl]
   have hp:=h.wd s t p.tx;rw[hk0] at hp
   rcases hp with ⟨l,r,e,_⟩|⟨_,hp⟩
   . exact absurd (zj e) (hnt l r)
   . refine .inr ⟨fun l r e=>?_,?_⟩
     . cases ok with
       |none=>rw[p.Jm rfl] at e;cases e
       |some k'=>
        rw[p.lh rfl] at e;obtain rfl:=zj e;exact hn _ rfl
     . rw[hs.en]
       refine hp.imp (fun x=>⟨x.1,.inl (x.2.resolve_right (fun e=>?_))⟩) (fun x=>x);obtain rfl:=zj e
       cases hA
 . cases ok with
   |none=>rw[p.Jm rfl] at hk';cases hk'
   |some k2=>
    rw[p.lh rfl] at hk';obtain rfl:=zj hk';exact .inr ((hn _ rfl).mono (fun b Z=>be.bnd Z (Nat.le_of_eq hlim.symm) hs.id) (fun w hw=>be.ck hw) hs.bg hs.en hs.id)
 . cases ok with
   |some k2=>rw[p.lh rfl] at hk';cases hk'
   |none=>
    obtain⟨r',rfl⟩:=xP hA (by rw[p.run]);rw[hs.en];exact yl
 . have Z:=h.bo s t p.tx
   have hb2:∀ b,qZ D t b->qZ aC t2 b:=fun b Z=>be.bnd Z (Nat.le_of_eq hlim.symm) hs.id
   rcases hs.bo with e|⟨b,h1,h2,e⟩
   . rw[e];exact⟨Z.1,fun b x=>hb2 b (Z.2 b x)⟩
   . rw[e]
     refine⟨?_,fun b' x=>?_⟩
     . rw[List.nodup_append]
       refine⟨Z.1,by simp,fun a ha b' hb' e9=>?_⟩;rw[List.mem_singleton] at hb';rw[hb'] at e9;rw[e9] at ha;exact h2 ha
     . rw[List.mem_append] at x
       rcases x with x|x
       . exact hb2 b' (Z.2 b' x)
       . simp at x;subst x;exact hb2 b' h1
end
section
variable {N L n s q cq d kd:Nat} {D τ υ aC aK:St} {t t0 t2 u u2:bL} {c c2:dY} {r:mo} {k:K} {ok:Option K}
theorem TI.Ac (h:TI D) (p:Stp N L n s D aC kd r t c k aK ok t2 c2) (hid:t2.id=t.id) (hbg:t2.aJ=t.aJ) (hen:t2.ay=t.ay) (PZ:t2.aR=t.aR) (h0:aC.word 0=D.word 0) (hst:∀ b,iV D b->iV aC b)
 (hal:aC.ai.getD s none=some t2∨(aC.ai.getD s none=none∧iV aC t.id))
 (hwo:∀ q u,q≠s->D.ai.getD q none=some u->PW (D.word (D.place u.id)) u (D.gY q)->PW (aC.word (D.place u.id)) u (D.gY q))
 (hws:aC.ai.getD s none=some t2->PW (aC.word (D.place t.id)) t2 (aC.gY s))
 (hub:∀ id,id=0∨D.aB<id->id<=2000->aC.word (D.place id)=0)
 (hkk:∀ k',aC.gY s=some k'->(∃ l r,k'=.turns l r)∨KT (qZ D t) (mF D) t k')
 (QZ:aC.ai.getD s none=some t2->aC.gY s=none->t.ay=0):TI aC:=by
 have be:Rel D aC s t t2:=⟨p.aB,p.aG,p.ox,p.oc,p.tx,hid,hbg,fun _=>hen,by rw[h0];exact zr _,hst,hal⟩
 have hlim:lim t2=lim t:=by unfold lim;rw[hen,hbg]
 have Z:=h.bg s t p.tx;refine h.next be ⟨by rw[hen,h0];exact Z.2.2.1,by rw[hen,hbg];exact Z.2.2.2⟩ (.inl hen) hwo hws hub (by rw[h0];exact be.ck h.ck) (fun k' _ hk'=>?_) (fun ha hk'=>by rw[hen];exact QZ ha hk') ?_
 . exact (hkk k' hk').imp (fun x=>x) (fun x=>x.mono (fun b Z=>be.bnd Z (Nat.le_of_eq hlim.symm) hid) (fun w hw=>be.ck hw) hbg hen hid)
 . have Z:=h.bo s t p.tx
   rw[PZ];exact⟨Z.1,fun b x=>be.bnd (Z.2 b x) (Nat.le_of_eq hlim.symm) hid⟩
theorem uH {N:Nat} {a b:Nat} (h:D.place a=D.place b):a=b:=by unfold St.place at h;omega
theorem BN (D:St) (w:Nat):(D.dw w).ai=D.ai∧(D.dw w).aQ=D.aQ∧(D.dw w).calls=D.calls:=by
 unfold St.dw St.cB;split<;>exact⟨rfl,rfl,rfl⟩
theorem ny (D:St) (i a b:Nat):(D.cB i a b).ai=D.ai∧(D.cB i a b).aQ=D.aQ∧(D.cB i a b).calls=D.calls:=by
 unfold St.cB;split<;>exact⟨rfl,rfl,rfl⟩
theorem TI.Mt (h:TI D) (hw:WF N L n D) (p:Stp N L n s D aC kd r t c k aK ok t2 c2) {w:Nat} (hlo:aZ w≠0) (hlm:aZ w<=2000) (hck:∀ s t,D.ai.getD s none=some t->t.id=aZ w->t.ay=aj w∧t.ay≠0)
 (hwr:wr (D.aM s {c with waits:=false}) s k=if D.word (D.place (aZ w))=pack 1 0 then some (D.place (aZ w),pack 2 (aj w)) else none):
 aC.word 0=D.word 0∧(∀ b,iV D b->iV aC b)∧(∀ id,id=0∨D.aB<id->id<=2000->aC.word (D.place id)=0)∧
 ∀ q u ko,D.ai.getD q none=some u->PW (D.word (D.place u.id)) u ko->PW (aC.word (D.place u.id)) u ko:=by
 have hpl':∀ id,aC.place id=D.place id:=fun id=>by unfold St.place;rw[p.aG]
 by_cases hf:D.word (D.place (aZ w))=pack 1 0
 . rw[aW hf] at hwr
   have hlen:D.place (aZ w)<D.words.length:=by rw[hw.sh.place,hw.sh.nw];omega
   have hj:=(p.jS hwr 0).2 hlen;have hne:∀ id,id≠aZ w->aC.word (D.place id)=D.word (D.place id):=fun id hi=>(p.jS hwr _).1 (fun e=>hi (uH (N:=N) e))
   refine⟨(p.jS hwr 0).1 (by rw[hw.sh.place];omega),fun b Z=>?_,fun id h1 h2=>?_,fun q u ko hu hp=>?_⟩
   . unfold iV at Z ⊢
     rw[hpl']
     by_cases e:b=aZ w
     . subst e;rw[hf,fC (by omega)] at Z;omega
     . rw[hne b e];exact Z
   . have e:id≠aZ w:=by
      rintro rfl;have:=h.ub _ h1 h2;rw[hf] at this;cases this
     rw[hne id e];exact h.ub id h1 h2
   . by_cases e:u.id=aZ w
     . rw[e,hj]
       rw[e,hf] at hp;obtain⟨g1,g2⟩:=hck q u hu e
       rcases hp with ⟨l,r,_,h4,h5⟩|⟨g3,_⟩
       . have:bA (pack 1 0)=r.over:=by rw[h5,fC (by omega)]
         rw[fC (by omega)] at this;omega
       . exact .inr ⟨g3,.inr ⟨by rw[g1],g2⟩⟩
     . rw[hne _ e];exact hp
 . rw[bu hf] at hwr
   have hn:=p.rP hwr;exact⟨hn 0,fun b Z=>by unfold iV at Z ⊢;rw[hpl',hn];exact Z,fun id h1 h2=>by rw[hn];exact h.ub id h1 h2,fun q u ko _ hp=>by rw[hn];exact hp⟩
theorem TI.xQ (h:TI D) (hw:WF N L n D) {w now:Nat} (p:Stp N L n s D aC kd r t c (.eX w now) aK ok t2 c2):TI aC∧t2=t∧aK.aQ=D.aQ:=by
 have yl:KT (qZ D t) (mF D) t (.eX w now):=by
  rcases h.kk s t _ p.tx p.yH with ⟨l,r,e⟩|hx
  . cases e
  . exact hx
 obtain⟨k1,k2,k3,k4⟩:=yl;have e1:=p.run;simp only[St.run] at e1;obtain⟨e1,e2⟩:=jw _ _ _ _ ▸ e1;obtain⟨f1,f2,f3⟩:=BN (D.aM s {c with waits:=false}) w;rw[e1] at f1 f2;have et:t2=t:=p.tt (by rw[f1];exact p.tx);subst et;obtain⟨a1,a2,a3,a4⟩:=h.Mt hw p k3 p.Ca.2.1 k4.2.2 rfl;refine⟨h.Ac p rfl rfl rfl rfl a1 a2 (.inl (p.go _ e2.symm).2.2.2.1) (fun q u _ hu hp=>a4 q u _ hu hp) (fun _=>?_) a3 (fun k' hk'=>?_) (fun _ hk'=>?_),rfl,f2⟩
 . have hp:=a4 s t2 _ p.tx (h.wd s t2 p.tx)
   rw[p.yH] at hp;rw[p.lh e2.symm]
   rcases hp with ⟨l,r,e,_⟩|⟨_,hp⟩
   . cases e
   . exact .inr ⟨fun l r e=>(by cases e),hp.imp (fun x=>⟨x.1,.inl k1⟩) (fun x=>x)⟩
 . rw[p.lh e2.symm] at hk'
   obtain rfl:=zj hk';exact .inr ⟨k1,k2,k4⟩
 . rw[p.lh e2.symm] at hk';cases hk'
theorem TI.xR (h:TI D) (hw:WF N L n D) (p:Stp N L n s D aC kd r t c .eB aK ok t2 c2):TI aC∧t2=t∧aK.aQ=D.aQ:=by
 have yl:KT (qZ D t) (mF D) t .eB:=by
  rcases h.kk s t _ p.tx p.yH with ⟨l,r,e⟩|hx
  . cases e
  . exact hx
 have hi:=h.ip s t p.tx;have hm:=hw.sh.md;have hlt:aZ (aV t.ay t.id)=t.id:=by unfold aZ aV;omega
 have qo:aj (aV t.ay t.id)=t.ay:=by unfold aj aV;omega
 have e1:=p.run;simp only[St.run] at e1;obtain⟨e1,e2⟩:=jw _ _ _ _ ▸ e1;rw[p.m.et] at e1 e2;obtain⟨f1,f2,f3⟩:=BN (D.aM s {c with waits:=false}) (aV t.ay t.id);rw[e1] at f1 f2;have et:t2=t:=p.tt (by rw[f1];exact p.tx);subst et;have e3:((D.aM s {c with waits:=false}).dw (aV t2.ay t2.id)).t s=t2:=by
  rw[e1];obtain⟨d,m2⟩:=p.m2;exact m2.et
 rw[e3] at e2
 obtain ⟨a1, a2, a3, a4⟩ := h.Mt hw p (w := aV t2.ay t2.id) (by omega) (by omega) (fun q u hu hq => by
   rw[hlt] at hq
   have:=h.uq q s u t2 hu p.tx hq
   subst this
   rw[p.tx] at hu
   obtain rfl:=zj hu
   exact⟨qo.symm,yl⟩) (by simp only[wr];rw[p.m.et];rfl)
 have hpw:aC.word (D.place t2.id)=pack 2 t2.ay:=by
  have hp:=h.wd s t2 p.tx;rw[p.yH] at hp;have hwr:wr (D.aM s {c with waits:=false}) s .eB=if D.word (D.place t2.id)=pack 1 0 then some (D.place t2.id,pack 2 t2.ay) else none:=by
   simp only[wr];rw[p.m.et,hlt,qo];rfl
  rcases hp with ⟨l,r,e,_⟩|⟨_,⟨g1,_⟩|⟨g1,_⟩⟩
  . cases e
  . rw[aW g1] at hwr
    exact (p.jS hwr 0).2 (by rw[hw.sh.place,hw.sh.nw];omega)
  . rw[bu (by rw[g1];unfold pack;omega)] at hwr
    rw[p.rP hwr];exact g1
 have hj:∀ l r,dH t2 0≠.turns l r:=by
  intro l r e;unfold dH at e;simp only at e
  split at e
  . unfold jT at e
    split at e<;>cases e
  . cases e
 refine⟨h.Ac p rfl rfl rfl rfl a1 a2 (.inl (p.go _ e2.symm).2.2.2.1) (fun q u _ hu hp=>a4 q u _ hu hp) (fun _=>?_) a3 (fun k' hk'=>?_) (fun _ hk'=>?_),rfl,f2⟩
 . rw[p.lh e2.symm,hpw]
   exact .inr ⟨fun l r e=>hj l r (zj e),.inr ⟨rfl,yl⟩⟩
 . rw[p.lh e2.symm] at hk'
   obtain rfl:=zj hk';exact .inr (Ab rfl yl 0)
 . rw[p.lh e2.symm] at hk';cases hk'
theorem TI.qG (h:TI D) (hw:WF N L n D) (p:Stp N L n s D aC kd r t c k aK ok t2 c2) {x:Nat} (hx:x=3∨x=4) (hwr:wr (D.aM s {c with waits:=false}) s k=some (D.place t.id,pack x t.ay))
 (hid:t2.id=t.id) (hbg:t2.aJ=t.aJ) (hen:t2.ay=t.ay) (PZ:t2.aR=t.aR) {l:List yJ} {r':mo} (hr:r'.over=x) (hok:ok=some (.turns l r')):TI aC:=by
 have hpl':∀ id,aC.place id=D.place id:=fun id=>by unfold St.place;rw[p.aG]
 have hi:=h.ip s t p.tx;have hm:=hw.sh.md;have hlen:D.place t.id<D.words.length:=by rw[hw.sh.place,hw.sh.nw];omega
 have hj:=(p.jS hwr 0).2 hlen;have hne:∀ id,id≠t.id->aC.word (D.place id)=D.word (D.place id):=fun id hi=>(p.jS hwr _).1 (fun e=>hi (uH (N:=N) e))
 refine h.Ac p hid hbg hen PZ ((p.jS hwr 0).1 (by rw[hw.sh.place];omega)) (fun b Z=>?_) (.inl (p.go _ hok).2.2.2.1) (fun q u hq hu hp=>?_) (fun _=>?_) (fun id h1 h2=>?_) (fun k' hk'=>?_) (fun _ hk'=>?_)
 . unfold iV at Z ⊢
   rw[hpl']
   by_cases e:b=t.id
   . rw[e,hj,fC (by omega)];exact hx
   . rw[hne b e];exact Z
 . rw[hne _ (fun e=>hq (h.uq q s u t hu p.tx e))];exact hp
 . rw[p.lh hok,hj]
   exact .inl ⟨l,r',rfl,by rw[hr];exact hx,by rw[hr,hen]⟩
 . rw[hne id (by omega)];exact h.ub id h1 h2
 . rw[p.lh hok] at hk'
   obtain rfl:=zj hk';exact .inl ⟨_,_,rfl⟩
 . rw[p.lh hok] at hk';cases hk'
theorem Ad (hs:s<D.ai.length) (ht:D.ai.getD s none=some t) (e:Ev):(D.dI s e).ai.getD s none=some {t with over:=true}∧(D.dI s e).aQ=if t.over then D.aQ else D.aQ++[e]:=by
 have et:D.t s=t:=by unfold St.t;rw[ht];rfl
 unfold St.dI;rw[et]
 by_cases ho:t.over=true
 . rw[aW ho,aW ho]
   refine⟨?_,rfl⟩;rw[ht]
   cases t;simp at ho;simp[ho]
 . rw[bu ho,bu ho]
   refine⟨?_,rfl⟩;show (D.ai.set s _).getD s none=_;rw[aS _ _ _ _ hs,aW rfl]
theorem TI.nU (h:TI D) (hw:WF N L n D) (p:Stp N L n s D aC kd r t c .cZ aK ok t2 c2):TI aC∧t2={t with over:=true}∧aK.aQ=(if t.over then D.aQ else D.aQ++[{kind:=5,t:=t.id}])∧ok=some (.turns (fG D t) {over:=3}):=by
 have yl:KT (qZ D t) (mF D) t .cZ:=by
  rcases h.kk s t _ p.tx p.yH with ⟨l,r,e⟩|hx
  . cases e
  . exact hx
 have e1:=p.run;simp only[St.run] at e1;obtain⟨e1,e2⟩:=jw _ _ _ _ ▸ e1;rw[p.m.et] at e1 e2;obtain⟨f1,f2⟩:=Ad (D:=(D.aM s {c with waits:=false}).put ((D.aM s {c with waits:=false}).place t.id) (pack 3 t.ay)) (s:=s) (t:=t) (by show s<D.ai.length;rw[hw.sh.t8];exact p.m.s8) p.tx {kind:=5,t:=t.id};rw[e1] at f1 f2;have et:=p.tt f1;subst et;exact⟨h.qG hw p (x:=3) (.inl rfl) (by simp only[wr];rw[p.m.et];rfl) rfl rfl rfl rfl rfl e2.symm,rfl,f2,e2.symm⟩
theorem TI.pK (h:TI D) (hw:WF N L n D) {e rs:Nat} (p:Stp N L n s D aC kd r t c (.abort e rs) aK ok t2 c2):TI aC∧t2={t with over:=true}∧aK.aQ=(if t.over then D.aQ else D.aQ++[{kind:=6,t:=t.id,res:={aI:=rs}}])∧ok=some (.turns (gD D t) {e:=e,over:=4,aI:=rs}):=by
 have e1:=p.run;simp only[St.run] at e1;obtain⟨e1,e2⟩:=jw _ _ _ _ ▸ e1;rw[p.m.et] at e1 e2;obtain⟨f1,f2⟩:=Ad (D:=(D.aM s {c with waits:=false}).put ((D.aM s {c with waits:=false}).place t.id) (pack 4 t.ay)) (s:=s) (t:=t) (by show s<D.ai.length;rw[hw.sh.t8];exact p.m.s8) p.tx {kind:=6,t:=t.id,res:={aI:=rs}};rw[e1] at f1 f2;have et:=p.tt f1;subst et;exact⟨h.qG hw p (x:=4) (.inr rfl) (by simp only[wr];rw[p.m.et];rfl) rfl rfl rfl rfl rfl e2.symm,rfl,f2,e2.symm⟩
theorem TI.pM (h:TI D) (hw:WF N L n D) {tl:List yJ} {r0:mo} (p:Stp N L n s D aC kd r t c (.turns tl r0) aK ok t2 c2):TI aC∧t2=t∧aK.aQ=D.aQ∧(∀ x l,tl=x::l->ok=some (.turns l r0))∧(tl=[]->ok=none∧c2.r=r0):=by
 have hp:=h.wd s t p.tx;rw[p.yH] at hp;obtain⟨l',r',e,hov,hpw⟩:∃ l r,some (K.turns tl r0)=some (.turns l r)∧(r.over=3∨r.over=4)∧D.word (D.place t.id)=pack r.over t.ay:=by
  rcases hp with hp|⟨hp,_⟩
  . exact hp
  . exact absurd rfl (hp tl r0)
 obtain⟨rfl,rfl⟩:=K.turns.injEq _ _ _ _ ▸ zj e;have hpl':∀ id,aC.place id=D.place id:=fun id=>by unfold St.place;rw[p.aG]
 have hst:iV D t.id:=by unfold iV;rw[hpw,fC (by omega)];exact hov
 have e1:=p.run
 cases tl with
 |nil=>
  simp only[St.run] at e1;obtain⟨e1,e2⟩:=jw _ _ _ _ ▸ e1;have et:t2=t:=p.tt (by rw[<-e1];exact p.tx);subst et;have EC:=p.m.s8;have hwr:wr (D.aM s {c with waits:=false}) s (.turns [] r0)=some (1+s,0):=rfl;have hpl:∀ id,aC.word (D.place id)=D.word (D.place id):=fun id=>(p.jS hwr _).1 (by rw[hw.sh.place];omega)
  have hc2:c2.r=r0:=by
   obtain⟨d,m2⟩:=p.m2;rw[<-m2.ec,<-e1];unfold St.finish St.c St.aM St.put;simp only;rw[aS _ _ _ _ (by show s<(D.calls.set s _).length;rw[nD,hw.sh.c8];exact EC),aW rfl];rfl
  have xS:aC.ai.getD s none=none:=by
   rcases (p.no e2.symm).2.2.2 with ⟨g,_⟩|⟨_,g,_⟩
   . rw[hc2] at g;omega
   . exact g
  refine⟨h.Ac p rfl rfl rfl rfl ((p.jS hwr 0).1 (by omega)) (fun b Z=>by unfold iV at Z ⊢;rw[hpl',hpl];exact Z) (.inr ⟨xS,by unfold iV at hst ⊢;rw[hpl',hpl];exact hst⟩) (fun q u _ _ hp=>by rw[hpl];exact hp) (fun x=>by rw[xS] at x;cases x) (fun id h1 h2=>by rw[hpl];exact h.ub id h1 h2) (fun k' hk'=>by rw[p.Jm e2.symm] at hk';cases hk') (fun x=>by rw[xS] at x;cases x),rfl,by rw[<-e1];rfl,fun x l e=>(by cases e),fun _=>⟨e2.symm,hc2⟩⟩
 |cons x l=>
  simp only[St.run] at e1;obtain⟨e1,e2⟩:=jw _ _ _ _ ▸ e1;have htx:aK.ai=D.ai∧aK.aQ=D.aQ:=by
   rw[<-e1]
   split
   . exact⟨rfl,rfl⟩
   . exact⟨(ny _ _ _ _).1,(ny _ _ _ _).2.1⟩
  have et:t2=t:=p.tt (by rw[htx.1];exact p.tx);subst et;have hx:=(p.Ca.2.2 x iG).2;have hwd:∀ i,i<9∨73+N*3<=i->aC.word i=D.word i:=by
   intro i hi
   by_cases hf:x.old=0∨(D.aM s {c with waits:=false}).word x.at_=x.old
   . exact (p.jS (j:=x.at_) (v:=x.new) (by simp only[wr];rw[aW hf]) i).1 (by omega)
   . exact p.rP (by simp only[wr];rw[bu hf]) i
  have hpl:∀ id,aC.word (D.place id)=D.word (D.place id):=fun id=>hwd _ (by rw[hw.sh.place];omega)
  refine⟨h.Ac p rfl rfl rfl rfl (hwd 0 (by omega)) (fun b Z=>by unfold iV at Z ⊢;rw[hpl',hpl];exact Z) (.inl (p.go _ e2.symm).2.2.2.1) (fun q u _ _ hp=>by rw[hpl];exact hp) (fun _=>?_) (fun id h1 h2=>by rw[hpl];exact h.ub id h1 h2) (fun k' hk'=>?_) (fun _ hk'=>?_),rfl,htx.2,fun y l' e=>?_,fun e=>(by cases e)⟩
  . rw[p.lh e2.symm,hpl,hpw]
    exact .inl ⟨l,r0,rfl,hov,rfl⟩
  . rw[p.lh e2.symm] at hk'
    obtain rfl:=zj hk';exact .inl ⟨_,_,rfl⟩
  . rw[p.lh e2.symm] at hk';cases hk'
  . obtain⟨rfl,rfl⟩:=List.cons.injEq _ _ _ _ ▸ e
    exact e2.symm
theorem TI.Ae (h:TI D) (hw:WF N L n D) {w now:Nat} (p:Stp N L n s D aC kd r t c (.turn w now) aK ok t2 c2):TI aC∧((D.word 0≠w∧t2=t∧aK.aQ=D.aQ∧aC.word 0=D.word 0∧ok=some .draw)∨(D.word 0=w∧t2={t with ay:=aj (D.word 0)+1}∧aK.aQ=D.aQ++[{kind:=3,t:=t.id,n:=aj (D.word 0)+1}]∧aj (aC.word 0)=aj (D.word 0)+1∧ok=some .eB)):=by
 have yl:KT (qZ D t) (mF D) t (.turn w now):=by
  rcases h.kk s t _ p.tx p.yH with ⟨l,r,e⟩|hx
  . cases e
  . exact hx
 obtain⟨k1,k2,k3⟩:=yl;have hi:=h.ip s t p.tx;have hm:=hw.sh.md;have Z:=h.bg s t p.tx;have e1:=p.run;simp only[St.run] at e1;rw[p.m.et] at e1;have hwd:=h.wd s t p.tx;rw[p.yH] at hwd;have hw1:D.word (D.place t.id)=pack 1 0:=by
  rcases hwd with ⟨l,r,e,_⟩|⟨_,⟨g1,_⟩|⟨_,g2⟩⟩
  . cases e
  . exact g1
  . exact absurd k1 g2
 by_cases hf:D.word 0=w
 . have hf':(D.aM s {c with waits:=false}).word 0=w:=hf
   rw[bu (fun x=>x hf')] at e1;obtain⟨e1,e2⟩:=jw _ _ _ _ ▸ e1;have hwr:wr (D.aM s {c with waits:=false}) s (.turn w now)=some (0,aV (now+1) t.id):=by
    simp only[wr];rw[aW hf',p.m.et]
   have h0:=(p.jS hwr 0).2 (by rw[hw.sh.nw];omega);have hpl:∀ id,aC.word (D.place id)=D.word (D.place id):=fun id=>(p.jS hwr _).1 (by rw[hw.sh.place];omega)
   have hpl':∀ id,aC.place id=D.place id:=fun id=>by unfold St.place;rw[p.aG]
   have qo:aj (aC.word 0)=aj (D.word 0)+1:=by rw[h0,hf,k2];unfold aj aV;omega
   have hla:aZ (aC.word 0)=t.id:=by rw[h0];unfold aZ aV;omega
   have uu:now=aj (D.word 0):=by rw[hf,k2]
   have ec:((D.aM s {c with waits:=false}).cB 0 w (aV (now+1) t.id)).t s=t:=by
    unfold St.t;rw[(ny _ _ _ _).1];exact p.m.et
   rw[ec] at e1
   have et : t2 = { t with ay := now + 1 } := p.tt (by
     rw[<-e1]
     show ((((D.aM s {c with waits:=false}).cB 0 w (aV (now+1) t.id)).ai).set s _).getD s none=_
     rw[(ny _ _ _ _).1,aS _ _ _ _ (by show s<D.ai.length;rw[hw.sh.t8];exact p.m.s8),aW rfl])
   subst et;have be:Rel D aC s t {t with ay:=now+1}:=⟨p.aB,p.aG,p.ox,p.oc,p.tx,rfl,rfl,fun x=>absurd k1 x,by omega,fun b Z=>by unfold iV at Z ⊢;rw[hpl',hpl];exact Z,.inl (p.go _ e2.symm).2.2.2.1⟩
   have hl1:lim t<=lim {t with ay:=now+1}:=by
    unfold lim;rw[aW k1,bu (by show ¬ now+1=0;omega)];show t.aJ<=now+1;omega
   refine⟨h.next be ⟨by show now+1<=_;omega,fun _=>by show t.aJ<now+1;omega⟩ (.inr (by show _<now+1;omega)) (fun q u _ _ hp=>by rw[hpl];exact hp) (fun _=>?_) (fun id h1 h2=>by rw[hpl];exact h.ub id h1 h2) ⟨by rw[hla,p.aB];exact hi.2,zr _,fun q u hu hq=>?_⟩ (fun k' _ hk'=>?_) (fun _ hk'=>?_) ?_,.inr ⟨hf,by rw[uu],?_,qo,e2.symm⟩⟩
   . rw[p.lh e2.symm,hpl,hw1]
     exact .inr ⟨fun l r e=>(by cases e),.inl ⟨rfl,.inr rfl⟩⟩
   . rw[hla] at hq
     rcases be.alive hu with ⟨e,g⟩|⟨rfl,rfl⟩
     . exact absurd (h.uq q s u t g p.tx hq) e
     . exact⟨by show now+1=_;omega,by show now+1≠0;omega⟩
   . rw[p.lh e2.symm] at hk'
     obtain rfl:=zj hk';exact .inr (by show now+1≠0;omega)
   . rw[p.lh e2.symm] at hk';cases hk'
   . have PZ:=h.bo s t p.tx
     exact⟨PZ.1,fun b x=>be.bnd (PZ.2 b x) hl1 rfl⟩
   . rw[<-e1,uu]
     show ((D.aM s {c with waits:=false}).cB _ _ _).aQ++_=_;rw[(ny _ _ _ _).2.1];show D.aQ++_=_;rw[<-uu]
 . have hf':¬ (D.aM s {c with waits:=false}).word 0=w:=hf
   rw[aW hf'] at e1;obtain⟨e1,e2⟩:=jw _ _ _ _ ▸ e1;have hn:=p.rP (by simp only[wr];rw[bu hf']);have et:t2=t:=p.tt (by rw[<-e1,(ny _ _ _ _).1];exact p.tx);subst et;have hpl':∀ id,aC.place id=D.place id:=fun id=>by unfold St.place;rw[p.aG]
   refine⟨h.Ac p rfl rfl rfl rfl (hn 0) (fun b Z=>by unfold iV at Z ⊢;rw[hpl',hn];exact Z) (.inl (p.go _ e2.symm).2.2.2.1) (fun q u _ _ hp=>by rw[hn];exact hp) (fun _=>?_) (fun id h1 h2=>by rw[hn];exact h.ub id h1 h2) (fun k' hk'=>?_) (fun _ hk'=>?_),.inl ⟨hf,rfl,?_,hn 0,e2.symm⟩⟩
   . rw[p.lh e2.symm,hn,hw1]
     exact .inr ⟨fun l r e=>(by cases e),.inl ⟨rfl,.inl k1⟩⟩
   . rw[p.lh e2.symm] at hk'
     obtain rfl:=zj hk';exact .inr k1
   . rw[p.lh e2.symm] at hk';cases hk'
   . rw[<-e1,(ny _ _ _ _).2.1];rfl
end
structure RX (N L n s:Nat) (D aC:St) (o:En.Op) (t:bL) (k:K) (eF:St) (t2:bL) (c2:dY):Prop where
 tx:D.ai.getD s none=some t
 ca:D.calls.getD s none=none
 op:nX o=true
 m:Mid N L n s 0 (cO D s o t) (cO D s o t) (jD o t) (gW o (D.seq+1))
 run:(cO D s o t).first s=(eF,k)
 m2:Mid N L n s 0 (cO D s o t) eF t2 c2
 Ca:xh N L t2 c2 k
 e1:aC=eF.aM s {c2 with k:=some k}
 oc:∀ q,q≠s->aC.calls.getD q none=D.calls.getD q none
 ox:∀ q,q≠s->aC.ai.getD q none=D.ai.getD q none
 cc:aC.calls.getD s none=some {c2 with k:=some k}
 tt:aC.ai.getD s none=some t2
section
variable {N L n s q cq d kd:Nat} {D τ υ aC aK eF:St} {t t0 t2 u u2:bL} {c c2:dY} {r:mo} {k:K} {ok:Option K} {o:En.Op} {P Q:Nat->Prop}
theorem WF.BO (h:WF N L n D) (hs:s<8) (hi:jo D s o=some aC):∃ t k eF t2 c2,RX N L n s D aC o t k eF t2 c2:=by
 unfold jo at hi
 split at hi
 . rename_i t ht
   split at hi
   . rename_i hcond
     obtain⟨ho,hc,hop,-,-,-,-⟩:=hcond;have hc0:D.calls.getD s none=none:=by simpa using hc
     have m:=h.Rm hs ht o ho (hop.imp (fun x=>x) (fun x=>x.1));have hout:=uA m rfl rfl;have fo:=zU D s o t (by rw[h.sh.c8];exact hs) (by rw[h.sh.t8];exact hs)
     cases e:(cO D s o t).first s with
     |mk eF k=>
     rw[e] at hout hi;obtain⟨t2,c2,m2,h1,h2,h3⟩:=hout;simp only at m2 h3 hi;rw[m2.ca] at hi;simp only at hi
     split at hi
     . obtain rfl:=zj hi
       have uz:s<eF.calls.length:=by rw[m2.sh.c8];exact hs
       refine⟨t,k,eF,t2,c2,ht,hc0,ho,m,e,m2,h3,rfl,fun q hq=>?_,fun q hq=>(m2.ox q hq).trans (fo q hq).1,?_,m2.tx⟩
       . show (eF.calls.set s _).getD q none=_
         rw[aS _ _ _ _ uz,bu hq];exact (m2.oc q hq).trans (fo q hq).2
       . show (eF.calls.set s _).getD s none=_
         rw[aS _ _ _ _ uz,aW rfl]
     . cases hi
   . cases hi
 . cases hi
theorem Mv (m:Mid N L n s d D τ t c) (h0:t.ay=0):TO N L n s d D P Q t τ.aQ (τ.first s):=by
 have et:=m.et;have ec:=m.ec;have r0:jr P t t:=jr.refl t;have h1:∀ th,(∀ i l,th≠.judge i l)->HT t ⟨c.op.F,t.aJ,th⟩:=by
  intro th hj;unfold HT
  split
  . rename_i e;exact absurd e (hj _ _)
  . exact⟨rfl,h0⟩
 unfold St.first;simp only;rw[et,ec]
 split
 . split
   . exact⟨t,c,m,r0,.inl ⟨rfl,rfl⟩,by split<;>exact h0⟩
   . exact⟨t,c,m,r0,.inl ⟨rfl,rfl⟩,h1 .get (by intro i l e;cases e)⟩
 . exact BL _ _ _ c m r0 (.inl ⟨rfl,rfl⟩) h0
 . exact⟨t,c,m,r0,.inl ⟨rfl,rfl⟩,h0⟩
 . exact⟨t,c,m,r0,.inl ⟨rfl,rfl⟩,trivial⟩
 . split
   . split
     . exact⟨t,c,m,r0,.inl ⟨rfl,rfl⟩,h0⟩
     split
     . exact⟨t,c,m,r0,.inl ⟨rfl,rfl⟩,h0⟩
     split
     . exact BM m r0 (.inl ⟨rfl,rfl⟩) h0 true 0 0
     . exact⟨t,c,m,r0,.inl ⟨rfl,rfl⟩,h0⟩
   . exact⟨t,c,m,r0,.inl ⟨rfl,rfl⟩,h1 .change (by intro i l e;cases e)⟩
theorem Mw (s:Nat) (τ:St):Ws τ (τ.first s).1:=by
 unfold St.first;simp only
 split
 . split<;>exact Ws.refl τ
 . exact BC s τ _
 . exact Ws.refl τ
 . exact Ws.refl τ
 . split
   . split
     . exact Ws.refl τ
     split
     . exact Ws.refl τ
     split
     . exact BF s τ true 0 0
     . exact Ws.refl τ
   . exact Ws.refl τ
theorem Gl (s:Nat):∀ (k:Nat) (τ:St) (F:Nat),(iH s k τ F).1.aQ=τ.aQ:=by
 intro k
 induction k with
 |zero=>intro τ F;rfl
 |succ k ih=>
  intro τ F;unfold iH
  split
  . rfl
  . split
    . rw[ih];split<;>rfl
    . rfl
theorem Jn (s:Nat) (τ:St) (x:Bool) (G head:Nat):(τ.slot s x G head).1.aQ=τ.aQ:=by
 unfold St.slot
 by_cases h0:G=0
 . rw[aW h0]
   have e1:=(uy τ).2.2.2.2.2.2.1
   cases e:τ.take with
   |mk bF o=>
    rw[e] at e1
    cases o with
    |none=>exact e1
    |some l=>exact e1
 . rw[bu h0]
theorem Gm (s:Nat) (τ:St):(τ.first s).1.aQ=τ.aQ:=by
 unfold St.first;simp only
 split
 . split<;>rfl
 . exact Gl s _ τ _
 . rfl
 . rfl
 . split
   . split
     . rfl
     split
     . rfl
     split
     . exact Jn s τ true 0 0
     . rfl
   . rfl
theorem xU (D:St) (s:Nat) (o:En.Op) (t:bL):(cO D s o t).words=D.words∧(cO D s o t).aG=D.aG∧(cO D s o t).aB=D.aB∧(cO D s o t).aQ=D.aQ:=by
 unfold cO;split<;>exact⟨rfl,rfl,rfl,rfl⟩
theorem RX.ws (p:RX N L n s D aC o t k eF t2 c2):Ws D aC∧aC.aB=D.aB:=by
 obtain⟨a,b,c,d⟩:=xU D s o t;have h:=Mw s (cO D s o t);rw[p.run] at h;have hm:=p.m2.md;rw[p.e1];exact⟨⟨h.1.trans a,h.2.trans b⟩,hm.trans c⟩
theorem El (o:En.Op) (t:bL):(jD o t).id=t.id∧(jD o t).aJ=t.aJ∧(jD o t).ay=t.ay∧(jD o t).aR=t.aR∧(jD o t).ax=t.ax∧(jD o t).over=t.over:=by
 unfold jD;split<;>exact⟨rfl,rfl,rfl,rfl,rfl,rfl⟩
theorem TI.kY (h:TI D) (hw:WF N L n D) (p:RX N L n s D aC o t k eF t2 c2):TI aC∧jr (qZ D t) (jD o t) t2∧aC.aQ=D.aQ:=by
 have hk0:D.gY s=none:=by unfold St.gY;rw[p.ca];rfl
 have h0:=h.Ul s t p.tx hk0;obtain⟨f1,f2,f3,f4,f5,f6⟩:=El o t;have hto:=Mv (P:=fun b=>qZ D t b∧False) (Q:=mF D) p.m (by rw[f3];exact h0);rw[p.run] at hto;obtain⟨t',c',m',hs',hl,hn⟩:=hto;have e:t2=t':=zj (p.m2.tx.symm.trans m'.tx);subst e;have hs:jr (qZ D t) (jD o t) t2:=⟨hs'.id,hs'.bg,hs'.en,hs'.lv,hs'.ov,hs'.bo.imp (fun x=>x) (fun ⟨b,Z,_⟩=>Z.2.elim)⟩
 have hb2:t2.aR=t.aR:=by
  rcases hs'.bo with e|⟨b,Z,_⟩
  . rw[e,f4]
  . exact Z.2.elim
 obtain⟨ws,hm⟩:=p.ws;have Cy:aC.aQ=D.aQ:=by
  have h4:=(xU D s o t).2.2.2;have h5:=Gm s (cO D s o t);rw[p.run] at h5;have this:eF.aQ=D.aQ:=h5.trans h4;rw[p.e1];exact this
 have hid:t2.id=t.id:=hs.id.trans f1;have hbg:t2.aJ=t.aJ:=hs.bg.trans f2;have hen:t2.ay=t.ay:=hs.en.trans f3;have hw':∀ i,aC.word i=D.word i:=fun i=>ws.word i
 have be:Rel D aC s t t2:=⟨hm,ws.2,p.ox,p.oc,p.tx,hid,hbg,fun _=>hen,by rw[hw'];exact zr _,fun b Z=>by unfold iV at Z ⊢;rw[ws.place,hw'];exact Z,.inl p.tt⟩
 have hlim:lim t2=lim t:=by unfold lim;rw[hen,hbg]
 have Z:=h.bg s t p.tx;have hk1:aC.gY s=some k:=by unfold St.gY;rw[p.cc];rfl
 have hkt:KT (qZ D t) (mF D) t k:=hn.mono (fun b x=>x.1) (fun w x=>x) f2.symm f3.symm f1.symm;refine⟨h.next be ⟨by rw[hen,hw'];exact Z.2.2.1,by rw[hen,hbg];exact Z.2.2.2⟩ (.inl hen) (fun q u _ _ hp=>by rw[hw'];exact hp) (fun _=>?_) (fun id h1 h2=>by rw[hw'];exact h.ub id h1 h2) (by rw[hw'];exact be.ck h.ck) (fun k' _ hk'=>?_) (fun _ hk'=>by rw[hk1] at hk';cases hk') ?_,hs,Cy⟩
 . have hp:=h.wd s t p.tx
   rw[hk0] at hp;rw[hw',hk1]
   rcases hp with ⟨l,r,e,_⟩|⟨_,hp⟩
   . cases e
   . unfold PW
     rw[hen];refine .inr ⟨fun l r e=>?_,hp.imp (fun x=>⟨x.1,.inl h0⟩) (fun x=>x)⟩;obtain rfl:=zj e;exact hkt
 . rw[hk1] at hk'
   obtain rfl:=zj hk';exact .inr (hkt.mono (fun b Z=>be.bnd Z (Nat.le_of_eq hlim.symm) hid) (fun w hw=>be.ck hw) hbg hen hid)
 . have Z:=h.bo s t p.tx
   rw[hb2];exact⟨Z.1,fun b x=>be.bnd (Z.2 b x) (Nat.le_of_eq hlim.symm) hid⟩
theorem TI.quiet (h:TI D) (hm:τ.aB=D.aB) (hsl:τ.aG=D.aG) (hx:τ.ai=D.ai) (hc:τ.calls=D.calls) (h0:τ.word 0=D.word 0) (hp:∀ id,τ.word (D.place id)=D.word (D.place id)):TI τ:=by
 have hpl:∀ id,τ.place id=D.place id:=fun id=>by unfold St.place;rw[hsl]
 have hko:∀ q,τ.gY q=D.gY q:=fun q=>by unfold St.gY;rw[hc]
 have hst:∀ b,iV D b->iV τ b:=fun b Z=>by unfold iV at Z ⊢;rw[hpl,hp];exact Z
 have hbn:∀ u b,qZ D u b->qZ τ u b:=fun u b Z=>⟨Z.1,by rw[hm];exact Z.2.1,Z.2.2.1,Z.2.2.2.imp (hst b) (fun ⟨s',t',g⟩=>⟨s',t',by rw[hx];exact g.1,g.2⟩)⟩
 have hck:∀ w,mF D w->mF τ w:=fun w ⟨a,b,c⟩=>⟨by rw[hm];exact a,by rw[h0];exact b,fun s t ht=>by rw[hx] at ht;exact c s t ht⟩
 refine⟨fun s s' t t' a b=>?_,fun s t a=>?_,fun s t a=>?_,fun s s' t t' a b=>?_,fun s t a=>?_,fun id h1 h2 h3=>?_,fun id h1 h2=>?_,?_,fun s t k a b=>?_,fun s t a b=>?_,fun s t a=>?_⟩
 . rw[hx] at a b;exact h.uq s s' t t' a b
 . rw[hx] at a;rw[hm];exact h.ip s t a
 . rw[hx] at a;rw[h0];exact h.bg s t a
 . rw[hx] at a b;exact h.ne s s' t t' a b
 . rw[hx] at a;rw[hpl,hp,hko];exact h.wd s t a
 . rw[hm] at h2;exact hst _ (h.dd id h1 h2 (fun s t ht=>h3 s t (by rw[hx];exact ht)))
 . rw[hm] at h1;rw[hpl,hp];exact h.ub id h1 h2
 . rw[h0];exact hck _ h.ck
 . rw[hx] at a;rw[hko] at b
   exact (h.kk s t k a b).imp (fun x=>x) (fun x=>x.mono (hbn t) hck rfl rfl rfl)
 . rw[hx] at a;rw[hko] at b;exact h.Ul s t a b
 . rw[hx] at a
   exact⟨(h.bo s t a).1,fun b Z=>hbn t b ((h.bo s t a).2 b Z)⟩
theorem TI.tick (h:TI D):TI D.tick:=h.quiet rfl rfl rfl rfl rfl (fun _=>rfl)
theorem TI.dw (h:TI D) (hw:WF N L n D) {w:Nat} (hlo:aZ w≠0) (hlm:aZ w<=2000) (hck:∀ s t,D.ai.getD s none=some t->t.id=aZ w->t.ay=aj w∧t.ay≠0):TI (D.dw w):=by
 by_cases hf:D.word (D.place (aZ w))=pack 1 0
 . have e:D.dw w=D.put (D.place (aZ w)) (pack 2 (aj w)):=by unfold St.dw St.cB;rw[aW hf]
   rw[e];have hlen:D.place (aZ w)<D.words.length:=by rw[hw.sh.place,hw.sh.nw];omega
   have hj:(D.put (D.place (aZ w)) (pack 2 (aj w))).word (D.place (aZ w))=pack 2 (aj w):=by rw[cz,aW ⟨rfl,hlen⟩]
   have hne:∀ id,id≠aZ w->(D.put (D.place (aZ w)) (pack 2 (aj w))).word (D.place id)=D.word (D.place id):=fun id hi=>by rw[cz,bu (fun e=>hi (uH (N:=N) e.1))]
   have h0:(D.put (D.place (aZ w)) (pack 2 (aj w))).word 0=D.word 0:=by rw[cz,bu (fun e=>by have:=e.1;rw[hw.sh.place] at this;omega)]
   generalize Um:D.put (D.place (aZ w)) (pack 2 (aj w))=τ at hj hne h0;have hm:τ.aB=D.aB:=by rw[<-Um];rfl
   have hx:τ.ai=D.ai:=by rw[<-Um];rfl
   have hpl:∀ id,τ.place id=D.place id:=fun id=>by rw[<-Um];rfl
   have hko:∀ q,τ.gY q=D.gY q:=fun q=>by rw[<-Um];rfl
   have hst:∀ b,iV D b->iV τ b:=fun b Z=>by
    unfold iV at Z ⊢;rw[hpl]
    by_cases e:b=aZ w
    . subst e;rw[hf,fC (by omega)] at Z;omega
    . rw[hne b e];exact Z
   have hbn:∀ u b,qZ D u b->qZ τ u b:=fun u b Z=>⟨Z.1,by rw[hm];exact Z.2.1,Z.2.2.1,Z.2.2.2.imp (hst b) (fun ⟨s',t',g⟩=>⟨s',t',by rw[hx];exact g.1,g.2⟩)⟩
   have Ph:∀ w,mF D w->mF τ w:=fun w ⟨a,b,c⟩=>⟨by rw[hm];exact a,by rw[h0];exact b,fun s t ht=>by rw[hx] at ht;exact c s t ht⟩
   refine⟨fun s s' t t' a b=>?_,fun s t a=>?_,fun s t a=>?_,fun s s' t t' a b=>?_,fun s t a=>?_,fun id h1 h2 h3=>?_,fun id h1 h2=>?_,?_,fun s t k a b=>?_,fun s t a b=>?_,fun s t a=>?_⟩
   . rw[hx] at a b;exact h.uq s s' t t' a b
   . rw[hx] at a;rw[hm];exact h.ip s t a
   . rw[hx] at a;rw[h0];exact h.bg s t a
   . rw[hx] at a b;exact h.ne s s' t t' a b
   . rw[hx] at a
     rw[hpl,hko];have hp:=h.wd s t a
     by_cases e:t.id=aZ w
     . rw[e,hj]
       rw[e,hf] at hp;obtain⟨g1,g2⟩:=hck s t a e
       rcases hp with ⟨l,r,_,h4,h5⟩|⟨g3,_⟩
       . have:bA (pack 1 0)=r.over:=by rw[h5,fC (by omega)]
         rw[fC (by omega)] at this;omega
       . exact .inr ⟨g3,.inr ⟨by rw[g1],g2⟩⟩
     . rw[hne _ e];exact hp
   . rw[hm] at h2;exact hst _ (h.dd id h1 h2 (fun s t ht=>h3 s t (by rw[hx];exact ht)))
   . rw[hm] at h1
     rw[hpl];have e:id≠aZ w:=by
      rintro rfl;have:=h.ub _ h1 h2;rw[hf] at this;cases this
     rw[hne id e];exact h.ub id h1 h2
   . rw[h0];exact Ph _ h.ck
   . rw[hx] at a;rw[hko] at b
     exact (h.kk s t k a b).imp (fun x=>x) (fun x=>x.mono (hbn t) Ph rfl rfl rfl)
   . rw[hx] at a;rw[hko] at b;exact h.Ul s t a b
   . rw[hx] at a
     exact⟨(h.bo s t a).1,fun b Z=>hbn t b ((h.bo s t a).2 b Z)⟩
 . have e:D.dw w=D.tick:=by unfold St.dw St.cB;rw[bu hf]
   rw[e];exact h.tick
theorem TI.bN (h:TI D) (hm:D.aB<2000) (hs:s<8) (hw:Sh N L n D) (ht:D.ai.getD s none=none) (hc:D.calls.getD s none=none) (ax:Nat) (h4:aj (D.word 0)<281474976710000):TI (bN D s ax D):=by
 have hx:∀ q,(Em.bN D s ax D).ai.getD q none=if q=s then some (gB (D.aB+1) ax (aj (D.word 0)+1)) else D.ai.getD q none:=by
  intro q;show (((({D with aB:=D.aB+1}:St).cB 0 (D.word 0) (aV (aj (D.word 0)+1) 0)).ai).set s _).getD q none=_;rw[(ny _ _ _ _).1];exact aS _ _ _ _ (by show s<D.ai.length;rw[hw.t8];exact hs)
 have hcl:(Em.bN D s ax D).calls=D.calls:=by
  show (({D with aB:=D.aB+1}:St).cB 0 (D.word 0) (aV (aj (D.word 0)+1) 0)).calls=_;rw[(ny _ _ _ _).2.2]
 have hmd:(Em.bN D s ax D).aB=D.aB+1:=by
  show (({D with aB:=D.aB+1}:St).cB 0 (D.word 0) (aV (aj (D.word 0)+1) 0)).aB=_;unfold St.cB;split<;>rfl
 have hsl:(Em.bN D s ax D).aG=D.aG:=by
  show (({D with aB:=D.aB+1}:St).cB 0 (D.word 0) (aV (aj (D.word 0)+1) 0)).aG=_;unfold St.cB;split<;>rfl
 have hwd:(Em.bN D s ax D).words=((D.words.set 0 (aV (aj (D.word 0)+1) 0)).set (D.place (D.aB+1)) (pack 1 0)).set (1+s) (aj (D.word 0)+1):=by
  show (((({D with aB:=D.aB+1}:St).cB 0 (D.word 0) (aV (aj (D.word 0)+1) 0)).words.set (D.place (D.aB+1)) (pack 1 0)).set (1+s) (aj (D.word 0)+1))=_;rw[fU,aW (show ({D with aB:=D.aB+1}:St).word 0=D.word 0 from rfl)]
 have hlen:=hw.nw;have hpl:∀ id,D.place id=73+N*3+id:=fun id=>hw.place id
 generalize Um:Em.bN D s ax D=τ at hx hcl hmd hsl hwd;have hpl':∀ id,τ.place id=D.place id:=fun id=>by unfold St.place;rw[hsl]
 have hko:∀ q,τ.gY q=D.gY q:=fun q=>by unfold St.gY;rw[hcl]
 have w0:τ.word 0=aV (aj (D.word 0)+1) 0:=by
  unfold St.word;rw[hwd,gX,bu (by omega),gX,bu (by rw[hpl];omega),gX,aW ⟨rfl,by omega⟩];rfl
 have qo:aj (τ.word 0)=aj (D.word 0)+1:=by rw[w0];unfold aj aV;omega
 have hla:aZ (τ.word 0)=0:=by rw[w0];unfold aZ aV;omega
 have wn:τ.word (D.place (D.aB+1))=pack 1 0:=by
  show τ.words.getD _ 0=_;rw[hwd,gX,bu (by rw[hpl];omega),gX,aW ⟨rfl,by rw[nD,hpl];omega⟩]
 have wo:∀ id,id≠D.aB+1->τ.word (D.place id)=D.word (D.place id):=by
  intro id hi;show τ.words.getD _ 0=_;rw[hwd,gX,bu (by rw[hpl];omega),gX,bu (by rw[hpl,hpl];omega),gX,bu (by rw[hpl];omega)];rfl
 have hst:∀ b,b<=D.aB->iV D b->iV τ b:=fun b Z h=>by unfold iV at h ⊢;rw[hpl',wo b (by omega)];exact h
 have hal:∀ {q u},τ.ai.getD q none=some u->(q≠s∧D.ai.getD q none=some u)∨(q=s∧u=gB (D.aB+1) ax (aj (D.word 0)+1)):=by
  intro q u hu;rw[hx] at hu
  by_cases e:q=s
  . rw[aW e] at hu;exact .inr ⟨e,(zj hu).symm⟩
  . rw[bu e] at hu;exact .inl ⟨e,hu⟩
 have hne:∀ {q u},D.ai.getD q none=some u->q≠s:=by rintro q u hu rfl;rw[ht] at hu;cases hu
 have hbn:∀ u b,qZ D u b->qZ τ u b:=fun u b Z=>⟨Z.1,by have:=Z.2.1;omega,Z.2.2.1,Z.2.2.2.imp (hst b Z.2.1) (fun ⟨s',t',g⟩=>⟨s',t',by rw[hx,bu (hne g.1)];exact g.1,g.2⟩)⟩
 have Ph : ∀ w, mF D w -> mF τ w := fun w ⟨a, b, c⟩ => ⟨by omega, by omega, fun q u hu hi => by
   rcases hal hu with ⟨e,g⟩|⟨rfl,rfl⟩
   . exact c q u g hi
   . have:D.aB+1=aZ w:=hi
     omega⟩
 refine⟨fun q q' u u' hu hu' hi=>?_,fun q u hu=>?_,fun q u hu=>?_,fun q q' u u' hu hu' hq he=>?_,fun q u hu=>?_,fun id h1 h2 h3=>?_,fun id h1 h2=>?_,⟨by omega,zr _,fun q u hu hi=>?_⟩,fun q u k hu Y=>?_,fun q u hu Y=>?_,fun q u hu=>?_⟩
 . rcases hal hu with ⟨e,g⟩|⟨rfl,rfl⟩<;>rcases hal hu' with ⟨e',g'⟩|⟨rfl,rfl⟩
   . exact h.uq q q' u u' g g' hi
   . have:=(h.ip q u g).2
     have:u.id=D.aB+1:=hi;omega
   . have:=(h.ip q' u' g').2
     have:D.aB+1=u'.id:=hi;omega
   . rfl
 . rcases hal hu with ⟨e,g⟩|⟨rfl,rfl⟩
   . have:=h.ip q u g;omega
   . exact⟨by show 1<=D.aB+1;omega,by show D.aB+1<=_;omega⟩
 . rcases hal hu with ⟨e,g⟩|⟨rfl,rfl⟩
   . have h1:=h.bg q u g
     exact⟨h1.1,by omega,by omega,h1.2.2.2⟩
   . exact⟨by show 1<=aj (D.word 0)+1;omega,by show aj (D.word 0)+1<=_;omega,zz _,fun e=>absurd rfl e⟩
 . rcases hal hu with ⟨e,g⟩|⟨rfl,rfl⟩<;>rcases hal hu' with ⟨e',g'⟩|⟨rfl,rfl⟩
   . exact h.ne q q' u u' g g' hq he
   . exact he
   . exact absurd rfl he
   . exact absurd rfl hq
 . rw[hpl',hko]
   rcases hal hu with ⟨e,g⟩|⟨rfl,rfl⟩
   . rw[wo u.id (by have:=(h.ip q u g).2;omega)];exact h.wd q u g
   . have e:D.gY q=none:=by unfold St.gY;rw[hc];rfl
     rw[e];exact .inr ⟨fun l r e=>(by cases e),.inl ⟨wn,.inl rfl⟩⟩
 . by_cases e:id=D.aB+1
   . exact absurd e.symm (h3 s (gB (D.aB+1) ax (aj (D.word 0)+1)) (by rw[hx,aW rfl]))
   . exact hst id (by omega) (h.dd id h1 (by omega) (fun q u hu=>h3 q u (by rw[hx,bu (hne hu)];exact hu)))
 . rw[hpl',wo id (by omega)]
   exact h.ub id (by omega) h2
 . rw[hla] at hi
   rcases hal hu with ⟨e,g⟩|⟨rfl,rfl⟩
   . have:=(h.ip q u g).1;omega
   . have:D.aB+1=0:=hi
     omega
 . rw[hko] at Y
   rcases hal hu with ⟨e,g⟩|⟨rfl,rfl⟩
   . exact (h.kk q u k g Y).imp (fun x=>x) (fun x=>x.mono (hbn u) Ph rfl rfl rfl)
   . have e:D.gY q=none:=by unfold St.gY;rw[hc];rfl
     rw[e] at Y;cases Y
 . rw[hko] at Y
   rcases hal hu with ⟨e,g⟩|⟨rfl,rfl⟩
   . exact h.Ul q u g Y
   . rfl
 . rcases hal hu with ⟨e,g⟩|⟨rfl,rfl⟩
   . exact⟨(h.bo q u g).1,fun b Z=>hbn u b ((h.bo q u g).2 b Z)⟩
   . exact⟨List.nodup_nil,fun b Z=>by cases Z⟩
end
section
variable {N L n s q cq d kd:Nat} {D τ υ aC aK eF:St} {t t0 t2 u u2:bL} {c c2:dY} {r:mo} {k:K} {ok:Option K} {o:En.Op} {P Q:Nat->Prop}
def Un (D aK:St) (t t2:bL) (w0:Nat) (ok:Option K):Prop:=
 (aK.aQ=D.aQ∧w0=aj (D.word 0)∧t2.ay=t.ay)∨(∃ e,aK.aQ=D.aQ++[e]∧(e.kind=4∨e.kind=5∨e.kind=6)∧w0=aj (D.word 0)∧t2.ay=t.ay)∨
 (t.ay=0∧t2.ay=w0∧w0=aj (D.word 0)+1∧aK.aQ=D.aQ++[{kind:=3,t:=t.id,n:=w0}])
theorem Stp.Af (p:Stp N L n s D aC kd r t c k aK ok t2 c2) (hw:WF N L n D) (h:∀ w now,k≠.turn w now) (hl:∀ w now,k=.eX w now->True):aC.word 0=D.word 0:=by
 cases e:wr (D.aM s {c with waits:=false}) s k with
 |none=>exact p.rP e 0
 |some jv=>
  obtain⟨j,v⟩:=jv;refine (p.jS e 0).1 ?_;have hpl:∀ id,(D.aM s {c with waits:=false}).place id=73+N*3+id:=fun id=>hw.sh.place id
  by_cases hA:Pf k=true
  . have:=Rv p.Ca hA p.m.et p.m.ec e (Ej p.m.op)
    omega
  . cases k with
    |eX w now=>
     simp only[wr] at e
     split at e
     . obtain⟨rfl,-⟩:=jw _ _ _ _ ▸ zj e
       rw[hpl];omega
     . cases e
    |turn w now=>exact absurd rfl (h w now)
    |eB=>
     simp only[wr] at e
     split at e
     . obtain⟨rfl,-⟩:=jw _ _ _ _ ▸ zj e
       rw[hpl];omega
     . cases e
    |cZ=>
     obtain⟨rfl,-⟩:=jw _ _ _ _ ▸ zj e;rw[hpl];omega
    |abort x y=>
     obtain⟨rfl,-⟩:=jw _ _ _ _ ▸ zj e;rw[hpl];omega
    |turns l r=>
     cases l with
     |nil=>
      obtain⟨rfl,-⟩:=jw _ _ _ _ ▸ zj e;omega
     |cons x l=>
      have:=(p.Ca.2.2 x iG).2;simp only[wr] at e
      split at e
      . obtain⟨rfl,-⟩:=jw _ _ _ _ ▸ zj e
        omega
      . cases e
    |_=>exact absurd rfl hA
theorem TI.Eo (h:TI D) (hw:WF N L n D) (p:Stp N L n s D aC kd r t c k aK ok t2 c2):TI aC∧Un D aK t t2 (aj (aC.word 0)) ok∧t2.id=t.id∧t2.aJ=t.aJ:=by
 by_cases hA:Pf k=true
 . obtain⟨h1,h2,h3,_⟩:=h.Ms hw p hA
   have h0:=p.Af hw (by rintro w now rfl;cases hA) (fun _ _ _=>trivial);refine⟨h1,?_,h2.id,h2.bg⟩;rw[h0]
   rcases h3 with ⟨_,h3⟩|⟨b,_,_,_,h3⟩
   . exact .inl ⟨h3,rfl,h2.en⟩
   . exact .inr (.inl ⟨_,h3,.inl rfl,rfl,h2.en⟩)
 . cases k with
   |eX w now=>
    obtain⟨h1,rfl,h3⟩:=h.xQ hw p;have h0:=p.Af hw (by intro a b e;cases e) (fun _ _ _=>trivial);exact⟨h1,.inl ⟨h3,by rw[h0],rfl⟩,rfl,rfl⟩
   |turn w now=>
    obtain⟨h1,⟨_,rfl,h3,h4,_⟩|⟨_,rfl,h3,h4,_⟩⟩:=h.Ae hw p
    . exact⟨h1,.inl ⟨h3,by rw[h4],rfl⟩,rfl,rfl⟩
    . have yl:KT (qZ D t) (mF D) t (.turn w now):=by
       rcases h.kk s t _ p.tx p.yH with ⟨l,r,e⟩|hx
       . cases e
       . exact hx
      exact⟨h1,.inr (.inr ⟨yl.1,h4.symm,h4,by rw[h4];exact h3⟩),rfl,rfl⟩
   |eB=>
    obtain⟨h1,rfl,h3⟩:=h.xR hw p;have h0:=p.Af hw (by intro a b e;cases e) (fun _ _ _=>trivial);exact⟨h1,.inl ⟨h3,by rw[h0],rfl⟩,rfl,rfl⟩
   |cZ=>
    obtain⟨h1,rfl,h3,_⟩:=h.nU hw p;have h0:=p.Af hw (by intro a b e;cases e) (fun _ _ _=>trivial);refine⟨h1,?_,rfl,rfl⟩;rw[h0]
    split at h3
    . exact .inl ⟨h3,rfl,rfl⟩
    . exact .inr (.inl ⟨_,h3,.inr (.inl rfl),rfl,rfl⟩)
   |abort e rs=>
    obtain⟨h1,rfl,h3,_⟩:=h.pK hw p;have h0:=p.Af hw (by intro a b e;cases e) (fun _ _ _=>trivial);refine⟨h1,?_,rfl,rfl⟩;rw[h0]
    split at h3
    . exact .inl ⟨h3,rfl,rfl⟩
    . exact .inr (.inl ⟨_,h3,.inr (.inr rfl),rfl,rfl⟩)
   |turns l r=>
    obtain⟨h1,rfl,h3,_⟩:=h.pM hw p;have h0:=p.Af hw (by intro a b e;cases e) (fun _ _ _=>trivial);exact⟨h1,.inl ⟨h3,by rw[h0],rfl⟩,rfl,rfl⟩
   |_=>exact absurd rfl hA
/- The tale's times. -/
def jQ (a:Nat×List Nat) (e:Ev):Option (Nat×List Nat):=
 if e.kind=1 then (if e.n=a.1+1∧1<=e.t∧e.t<=2000 then some (a.1+1,e.t::a.2) else none)
 else if e.kind=3 then (if e.n=a.1+1∧1<=e.t∧e.t<=2000∧e.t∈a.2 then some (a.1+1,a.2) else none)
 else some a
def om:List Ev->Nat×List Nat->Option (Nat×List Nat)
 |[],a=>some a
 |e::l,a=>match jQ a e with|some b=>om l b|none=>none
theorem xV (l:List Ev) (e:Ev):∀ (a:Nat×List Nat),om (l++[e]) a=match om l a with|some b=>jQ b e|none=>none:=by
 induction l with
 |nil=>
  intro a;show (match jQ a e with|some b=>om [] b|none=>none)=jQ a e
  cases jQ a e<;>rfl
 |cons x l ih=>
  intro a;have e1:om (x::l++[e]) a=match jQ a x with|some b=>om (l++[e]) b|none=>none:=rfl
  have e2:om (x::l) a=match jQ a x with|some b=>om l b|none=>none:=rfl
  rw[e1,e2]
  cases h:jQ a x with
  |none=>rfl
  |some b=>exact ih b
def TT (D:St):Prop:=∃ bs,om D.aQ (0,[])=some (aj (D.word 0),bs)∧∀ s t,D.ai.getD s none=some t->t.id∈bs
theorem Ag {l:List Ev} {e:Ev} {a b:Nat×List Nat} (h:om l a=some b) (h1:e.kind≠1) (h3:e.kind≠3):om (l++[e]) a=some b:=by
 rw[xV,h];show jQ b e=some b;unfold jQ;rw[bu h1,bu h3]
theorem TT.step (h:TT D) (hi:TI D) (hw:WF N L n D) (p:Stp N L n s D aC kd r t c k aK ok t2 c2):TT aC:=by
 obtain⟨bs,h1,h2⟩:=h;obtain⟨g1,g2,g3,g4⟩:=hi.Eo hw p;have hid:=hi.ip s t p.tx;have hmd:=hw.sh.md;have hal:∀ q u,aC.ai.getD q none=some u->u.id∈bs:=by
  intro q u hu
  by_cases e:q=s
  . subst e
    cases ok with
    |some k'=>
     rw[(p.go k' rfl).2.2.2.1] at hu;obtain rfl:=zj hu;rw[g3];exact h2 q t p.tx
    |none=>
     rcases (p.no rfl).2.2.2 with ⟨_,g,_⟩|⟨_,g,_⟩
     . rw[g] at hu
       obtain rfl:=zj hu;rw[g3];exact h2 q t p.tx
     . rw[g] at hu;cases hu
  . rw[p.ox q e] at hu;exact h2 q u hu
 have hmid:om aK.aQ (0,[])=some (aj (aC.word 0),bs):=by
  rcases g2 with ⟨e1,e2,_⟩|⟨e,e1,e2,e3,_⟩|⟨_,_,e2,e3⟩
  . rw[e1,e2];exact h1
  . rw[e1,e3];exact Ag h1 (by omega) (by omega)
  . rw[e3,xV,h1]
    show jQ _ _=_;unfold jQ;rw[bu (by show ¬ (3=1);omega),aW rfl,aW ⟨e2,hid.1,by show t.id<=2000;omega,h2 s t p.tx⟩,e2]
 refine⟨bs,?_,hal⟩
 cases ok with
 |some k'=>rw[(p.go k' rfl).2.2.2.2];exact hmid
 |none=>
  rcases (p.no rfl).2.2.2 with ⟨_,_,g⟩|⟨_,_,g⟩
  . rw[g];exact Ag hmid (by show ¬ (2=1);omega) (by show ¬ (2=3);omega)
  . rw[g];exact hmid
theorem TT.kY (h:TT D) (hi:TI D) (hw:WF N L n D) (hs:s<8) (his:jo D s o=some aC):TT aC:=by
 obtain⟨t,k,eF,t2,c2,p⟩:=hw.BO hs his;obtain⟨bs,h1,h2⟩:=h;obtain⟨g1,g2,g3⟩:=hi.kY hw p;have f1:=(El o t).1;refine⟨bs,by rw[g3,p.ws.1.word];exact h1,fun q u hu=>?_⟩
 by_cases e:q=s
 . subst e
   rw[p.tt] at hu;obtain rfl:=zj hu;rw[g2.id,f1];exact h2 q t p.tx
 . rw[p.ox q e] at hu;exact h2 q u hu
theorem TI.aJ (h:TI D) (hT:TT D) (hw:WF N L n D) (hs:s<8) {ax id:Nat} (Z:kU D s ax=some (aC,id)):TI aC∧TT aC:=by
 unfold kU at Z
 split at Z
 . rename_i hc
   obtain⟨-,-,ht,hcl,hmd,-,qo,-⟩:=hc;have ht':D.ai.getD s none=none:=by simpa using ht
   have hc':D.calls.getD s none=none:=by simpa using hcl
   have main:∀ aK:St,TI aK->Sh N L n aK->aK.aB=D.aB->aK.ai=D.ai->aK.calls=D.calls->aK.word 0=D.word 0->aK.aG=D.aG->aK.aQ=D.aQ->TI (Em.bN D s ax aK)∧TT (Em.bN D s ax aK):=by
    intro aK h2 hS e1 e2 e3 e4 e5 e6;have e:Em.bN D s ax aK=Em.bN aK s ax aK:=by
     unfold Em.bN;rw[e1,e4];have:aK.place (D.aB+1)=D.place (D.aB+1):=by unfold St.place;rw[e5]
     rw[this]
    have Zn:=h2.bN (ax:=ax) (by rw[e1];exact hmd) hs hS (by rw[e2];exact ht') (by rw[e3];exact hc') (by rw[e4];exact qo);rw[e];refine⟨Zn,?_⟩;obtain⟨bs,g1,g2⟩:=hT;have hx:∀ q,(Em.bN aK s ax aK).ai.getD q none=if q=s then some (gB (aK.aB+1) ax (aj (aK.word 0)+1)) else aK.ai.getD q none:=by
     intro q;show (((({aK with aB:=aK.aB+1}:St).cB 0 (aK.word 0) (aV (aj (aK.word 0)+1) 0)).ai).set s _).getD q none=_;rw[(ny _ _ _ _).1];exact aS _ _ _ _ (by show s<aK.ai.length;rw[hS.t8];exact hs)
    have UT:(Em.bN aK s ax aK).aQ=D.aQ++[{kind:=1,t:=aK.aB+1,n:=aj (aK.word 0)+1,op:=⟨0,0,0,ax⟩}]:=by
     show (({aK with aB:=aK.aB+1}:St).cB 0 (aK.word 0) (aV (aj (aK.word 0)+1) 0)).aQ++_=_;rw[(ny _ _ _ _).2.1];show aK.aQ++_=_;rw[e6]
    have hw0:aj ((Em.bN aK s ax aK).word 0)=aj (aK.word 0)+1:=by
     have hwd:(Em.bN aK s ax aK).words=((aK.words.set 0 (aV (aj (aK.word 0)+1) 0)).set (aK.place (aK.aB+1)) (pack 1 0)).set (1+s) (aj (aK.word 0)+1):=by
      show (((({aK with aB:=aK.aB+1}:St).cB 0 (aK.word 0) (aV (aj (aK.word 0)+1) 0)).words.set (aK.place (aK.aB+1)) (pack 1 0)).set (1+s) (aj (aK.word 0)+1))=_;rw[fU,aW (show ({aK with aB:=aK.aB+1}:St).word 0=aK.word 0 from rfl)]
     have:(Em.bN aK s ax aK).word 0=aV (aj (aK.word 0)+1) 0:=by
      show (Em.bN aK s ax aK).words.getD 0 0=_;rw[hwd,gX,bu (by omega),gX,bu (by rw[hS.place];omega),gX,aW ⟨rfl,by rw[hS.nw];omega⟩]
     rw[this];unfold aj aV;omega
    refine⟨(aK.aB+1)::bs,?_,fun q u hu=>?_⟩
    . rw[UT,xV,g1,hw0,<-e4]
      show jQ _ _=_;unfold jQ;rw[aW rfl,aW ⟨rfl,by show 1<=aK.aB+1;omega,by show aK.aB+1<=2000;omega⟩]
    . rw[hx] at hu
      by_cases e:q=s
      . rw[aW e] at hu
        obtain rfl:=zj hu;exact iG
      . rw[bu e,e2] at hu
        exact nV _ (g2 q u hu)
   split at Z
   . obtain⟨rfl,-⟩:=jw _ _ _ _ ▸ zj Z
     exact main D.tick h.tick hw.sh.tick rfl rfl rfl rfl rfl rfl
   . rename_i hl0
     split at Z
     . rename_i hl2
       obtain⟨rfl,-⟩:=jw _ _ _ _ ▸ zj Z;have hS:Sh N L n (D.tick.dw (D.word 0)):=by
        unfold St.dw;rw[hw.sh.tick.place];exact hw.sh.tick.cB (oM (qK (by omega) (fq ((hw.sh.wd 0).ck rfl).1 hw.sh.l1)))
       have hh:=h.tick.dw (hw.tick) (w:=D.word 0) hl0 hl2 h.ck.2.2;obtain⟨f1,f2,f3⟩:=BN D.tick (D.word 0);refine main _ hh hS ?_ f1 f3 ?_ ?_ f2
       . unfold St.dw St.cB;split<;>rfl
       . unfold St.dw
         rw[hw.sh.tick.place];show ((D.tick.cB _ _ _).words).getD 0 0=_;rw[fU]
         split
         . rw[gX,bu (by omega)];rfl
         . rfl
       . unfold St.dw St.cB;split<;>rfl
     . cases Z
 . cases Z
theorem BP (h:WF N L n D) {x:S} (hx:Ga N x) (i:Nat) (hi:i<9∨73+N*3<=i):(D.aH x).1.word i=D.word i:=by
 cases x with
 |cut F ak G next=>
  obtain⟨h1,h2,h3,h4⟩:=hx;simp only[St.aH]
  split
  . rename_i h0
    have:=(h2.of h0).ag;show (D.put (af ak 2) next).word i=_;rw[cz,bu (by unfold af;omega)]
  . split
    . show (D.put (9+F) next).word i=_
      rw[cz,bu (by omega)]
    . rfl
 |_=>rfl
theorem uI (h:WF N L n D) (i:Nat) (hi:i<9∨73+N*3<=i):D.bX.1.word i=D.word i:=by
 have hgo:(St.bX.go D).1.word i=D.word i:=by
  have hx:Ga N (D.sw.getD .now):=by
   cases e:D.sw with
   |none=>exact trivial
   |some x=>exact h.sx.so x e
  have:=BP h hx i hi;unfold St.bX.go;exact this
 unfold St.bX
 split
 . split
   . show (D.give _).word i=_
     unfold St.word;rw[lN]
   . exact hgo
 . exact hgo
theorem xW (D:St) (x:S):(D.aH x).1.aG=D.aG:=by
 cases x with
 |cut F ak G next=>
  simp only[St.aH]
  split
  . rfl
  . split<;>rfl
 |_=>rfl
theorem Ep (D:St):D.bX.1.aG=D.aG:=by
 have hgo:(St.bX.go D).1.aG=D.aG:=by
  unfold St.bX.go;exact xW D _
 unfold St.bX
 split
 . split
   . exact xK D _
   . exact hgo
 . exact hgo
theorem TI.bX (h:TI D) (hT:TT D) (hw:WF N L n D):TI D.bX.1∧TT D.bX.1:=by
 obtain⟨-,-,-,-,-,-,e1,e2,e3,e4⟩:=hw.bX;refine⟨h.quiet e1 (Ep D) e2 e3 (uI hw 0 (by omega)) (fun id=>uI hw _ (by rw[hw.sh.place];omega)),?_⟩;obtain⟨bs,h1,h2⟩:=hT;exact⟨bs,by rw[e4,uI hw 0 (by omega)];exact h1,fun q u hu=>by rw[e2] at hu;exact h2 q u hu⟩
theorem Er (N L q:Nat):(new N L).ai.getD q none=none:=by
 show (List.replicate 8 (none:Option bL)).getD q none=none;rw[mM]
 by_cases h:q<8
 . rw[List.getElem?_replicate,aW h];rfl
 . rw[List.getElem?_replicate,bu h];rfl
theorem xX (N L i:Nat):(new N L).word i=0:=by
 show (List.replicate _ 0).getD i 0=0;rw[mM,List.getElem?_replicate]
 split<;>rfl
theorem TI.new (N L:Nat):TI (new N L)∧TT (new N L):=by
 have hn:∀ {q u},(En.new N L).ai.getD q none=some u->False:=fun {q u} h=>by rw[Er] at h;cases h
 refine⟨⟨fun _ _ _ _ a=>(hn a).elim,fun _ _ a=>(hn a).elim,fun _ _ a=>(hn a).elim,fun _ _ _ _ a=>(hn a).elim,fun _ _ a=>(hn a).elim,fun id h1 h2=>?_,fun id _ _=>xX N L _,⟨?_,zr _,fun _ _ a=>(hn a).elim⟩,fun _ _ _ a=>(hn a).elim,fun _ _ a=>(hn a).elim,fun _ _ a=>(hn a).elim⟩,[],?_,fun _ _ a=>(hn a).elim⟩
 . have:(En.new N L).aB=0:=rfl
   omega
 . rw[xX];exact zz _
 . rw[xX];rfl
end
def BQ (D:St):Prop:=∀ s t,D.ai.getD s none=some t->match D.gY s with|some k=>TL t (fun F=>pend F k)|none=>TL t (fun _=>0)
def pV (f:Nat->Nat):Nat:=f 0+f 1+f 2+f 3+f 4+f 5+f 6+f 7
def _root_.Go.Proofs.YthicolbbmjfkfaaGreat.En.St.Gn (D:St) (N:Nat):Nat:=pV (D.zX N)
def _root_.Go.Proofs.YthicolbbmjfkfaaGreat.En.St.vG (D:St) (N s:Nat):Nat:=D.rem N s+D.Gn N
section
variable {N L n s q cq d kd:Nat} {D τ υ aC aK eF:St} {t t0 t2 u u2:bL} {c c2:dY} {r:mo} {k:K} {ok:Option K} {o:En.Op}
theorem mi (ht:D.ai.getD s none=some t) (hc:D.calls.getD s none=some c) (Y:c.k=some k):D.rem N s=D.dm N t c k∧D.zX N s=D.gN N c k∧D.late s=late k:=by
 unfold St.rem St.zX St.late;rw[ht,hc];simp only[Y];exact⟨trivial,trivial,trivial⟩
theorem qB (ht:D.ai.getD s none=some t) (hc:D.calls.getD s none=none):D.rem N s=11+D.aO t.reads∧D.zX N s=6*N+1613∧D.late s=false:=by
 unfold St.rem St.zX St.late;rw[ht,hc];exact⟨rfl,rfl,rfl⟩
theorem xY (ht:D.ai.getD s none=none) (hc:D.calls.getD s none=none):D.rem N s=0∧D.zX N s=0∧D.late s=false:=by
 unfold St.rem St.zX St.late;rw[ht,hc];exact⟨rfl,rfl,rfl⟩
theorem Gp (c:dY) (k:K) (N:Nat) (t:bL) (x:Bool):D.dm N t {c with waits:=x} k=D.dm N t c k∧D.gN N {c with waits:=x} k=D.gN N c k:=by
 constructor
 . cases k<;>first|rfl|(unfold St.dm St.dG;rfl)
 . cases k<;>rfl
theorem Rw (c:dY) (k:K) (N:Nat) (t:bL) (x:Option K):D.dm N t {c with k:=x} k=D.dm N t c k∧D.gN N {c with k:=x} k=D.gN N c k:=by
 constructor
 . cases k<;>first|rfl|(unfold St.dm St.dG;rfl)
 . cases k<;>rfl
theorem Ah {α:Type} (l:List α) (f:α->List yJ) (m:Nat) (h:∀ x∈l,(f x).length<=m):(l.flatMap f).length<=m*l.length:=by
 induction l with
 |nil=>exact zz _
 |cons a l ih=>
  rw[List.flatMap_cons,jb,List.length_cons,Nat.mul_add];have h1:=h a iG;have h2:=ih (fun x hx=>h x (nV _ hx));omega
theorem TL.Gq {p:Nat->Nat} (h:TL t p):t.keys.length<=64:=mV 64 t.keys h.kd (fun i hi=>h.kl i hi)
theorem xZ (D:St) {p:Nat->Nat} (h:TL t p):(fG D t).length<=192:=by
 have h1:=h.Gq
 have h2 := Ah t.keys (fun F =>
   let x:=(t.cell F).getD default
   (if x.own≠0 then ⟨af x.own 0,0,t.ay⟩::(if x.there then [] else [⟨af x.own 1,0,t.ay⟩]) else [])
   ++(if x.old≠0 then [⟨af x.old 1,0,t.ay⟩] else [])) 3 (fun x _=>by
     simp only[jb]
     split<;>split<;>(try split)<;>simp)
 unfold fG;omega
theorem Ai (D:St) {p:Nat->Nat} (h:TL t p):(gD D t).length<=64:=by
 have h1:=h.Gq
 have h2 := Ah t.keys (fun F =>
   let x:=(t.cell F).getD default
   if x.old≠0 then [⟨af x.old 1,mine t,ever⟩] else []) 1 (fun x _=>by
     simp only
     split<;>simp)
 unfold gD;omega
theorem Jo (h:TI D) (hw:WF N L n D) (tl:BQ D) (p:Stp N L n s D aC kd r t c k aK ok t2 c2) (hl:late k=true):
 (∀ k',ok=some k'->late k'=true∧Cw.gN N k'+wt N (D.aM s {c with waits:=false}) s k<=Cw.gN N k∧TL t2 (fun F=>pend F k'))∧(ok=none->aC.ai.getD s none=none)∧wh (D.aM s {c with waits:=false}) s k=0∧wt N (D.aM s {c with waits:=false}) s k<=Cw.gN N k:=by
 have htl:=tl s t p.tx;rw[p.yH] at htl;have gM:TL t (fun _=>0):=htl.mono (fun _=>zz _)
 cases k with
 |wait i=>
  have hw0:wt N (D.aM s {c with waits:=false}) s (.wait i)=0:=by simp[wt,wa,wb,wp,wh]
  have e1:=p.run;simp only[St.run] at e1;have F:∀ k',ok=some k'->late k'=true∧Cw.gN N k'<=Cw.gN N (.wait i)∧(∀ F,pend F k'=0):=by
   intro k' ek;subst ek
   split at e1
   . obtain⟨_,e2⟩:=jw _ _ _ _ ▸ e1
     obtain rfl:=zj e2;unfold jT
     split<;>exact⟨rfl,zr _,fun _=>rfl⟩
   . split at e1
     . obtain⟨_,e2⟩:=jw _ _ _ _ ▸ e1
       obtain rfl:=zj e2;exact⟨rfl,zr _,fun _=>rfl⟩
     . obtain⟨_,e2⟩:=jw _ _ _ _ ▸ e1
       obtain rfl:=zj e2;exact⟨rfl,zr _,fun _=>rfl⟩
  have ht2:t2=t:=by
   apply p.tt
   split at e1
   . obtain⟨e1,_⟩:=jw _ _ _ _ ▸ e1
     rw[<-e1];exact p.tx
   . split at e1
     . obtain⟨e1,_⟩:=jw _ _ _ _ ▸ e1
       rw[<-e1];exact p.tx
     . obtain⟨e1,_⟩:=jw _ _ _ _ ▸ e1
       rw[<-e1];exact p.tx
  refine⟨fun k' ek=>⟨(F k' ek).1,by rw[hw0];exact (F k' ek).2.1,by rw[ht2];exact gM.mono (fun q=>Nat.le_of_eq ((F k' ek).2.2 q))⟩,fun e=>?_,rfl,by rw[hw0];exact zz _⟩;subst e
  split at e1
  . cases (jw _ _ _ _ ▸ e1).2
  . split at e1<;>cases (jw _ _ _ _ ▸ e1).2
 |cZ=>
  obtain⟨_,rfl,_,e4⟩:=h.nU hw p;have hw0:wt N (D.aM s {c with waits:=false}) s .cZ=0:=by simp[wt,wa,wb,wp,wh]
  refine⟨fun k' ek=>?_,fun e=>(by rw[e4] at e;cases e),rfl,by rw[hw0];exact zz _⟩;rw[e4] at ek;obtain rfl:=zj ek;have hlen:=xZ D gM;refine⟨rfl,?_,TL.mono (p:=fun _=>0) ⟨gM.mul,gM.kd,gM.kl⟩ (fun q=>by show (if 192<_ then 13 else 0)<=0;rw[bu (by omega)];exact zr _)⟩;rw[hw0];show 8*(fG D t).length+0<=6*N+1610;omega
 |abort e rs=>
  obtain⟨_,rfl,_,e4⟩:=h.pK hw p;have hw0:wt N (D.aM s {c with waits:=false}) s (.abort e rs)=6*N+10:=by simp[wt,wa,wb,wp,wh]
  refine⟨fun k' ek=>?_,fun e=>(by rw[e4] at e;cases e),rfl,by rw[hw0];show _<=6*N+1610;omega⟩;rw[e4] at ek;obtain rfl:=zj ek;have hlen:=Ai D gM;refine⟨rfl,?_,TL.mono (p:=fun _=>0) ⟨gM.mul,gM.kd,gM.kl⟩ (fun q=>by show (if 192<_ then 13 else 0)<=0;rw[bu (by omega)];exact zr _)⟩;rw[hw0];show 8*(gD D t).length+(6*N+10)<=6*N+1610;omega
 |turns l r0=>
  obtain⟨_,rfl,_,e4,e5⟩:=h.pM hw p
  cases l with
  |nil=>
   obtain⟨e5,e6⟩:=e5 rfl;have hw0:wt N (D.aM s {c with waits:=false}) s (.turns [] r0)=0:=by simp[wt,wa,wb,wp,wh]
   refine⟨fun k' ek=>(by rw[e5] at ek;cases ek),fun _=>?_,rfl,by rw[hw0];exact zz _⟩
   rcases (p.no e5).2.2.2 with ⟨g,_⟩|⟨_,g,_⟩
   . rw[e6] at g
     have:=p.Ca.1;omega
   . exact g
  |cons x l=>
   have e4:=e4 x l rfl;have hw0:wt N (D.aM s {c with waits:=false}) s (.turns (x::l) r0)=8:=by simp[wt,wa,wb,wp,wh]
   refine⟨fun k' ek=>?_,fun e=>(by rw[e4] at e;cases e),rfl,by rw[hw0];show 8<=8*(l.length+1);omega⟩;rw[e4] at ek;obtain rfl:=zj ek;refine⟨rfl,?_,htl.mono (fun q=>by show (if 192<l.length then 13 else 0)<=(if 192<l.length+1 then 13 else 0);split<;>split<;>omega)⟩;rw[hw0];show 8*l.length+8<=8*(l.length+1);omega
 |_=>cases hl
theorem Jp (hw:WF N L n D) (hcw:WC N D) (tl:BQ D) (p:Stp N L n s D aC kd r t c k aK ok t2 c2) (hq:q≠s):
 aC.rem N q<=D.rem N q+3*wa (D.aM s {c with waits:=false}) s k+8*wb (D.aM s {c with waits:=false}) s k+(6*N+10)*wp (D.aM s {c with waits:=false}) s k+(3*N+120)*wh (D.aM s {c with waits:=false}) s k∧
 aC.zX N q<=D.zX N q+8*wh (D.aM s {c with waits:=false}) s k∧aC.late q=D.late q:=by
 obtain⟨C,O,hcs,_,hpv⟩:=hcw;have q0:Qt N D (D.aM s {c with waits:=false}):=Qt.aM D s _;have hE:=Mj (hcs.quiet q0) p.m p.Ca ((hpv s c k p.ca p.ck).same q0 p.Ca.lk);rw[p.run] at hE;have hws:Ws aK aC:=by
  obtain⟨l,cs,ts,XN,e⟩:=p.e1;rw[e];exact⟨rfl,rfl⟩
 have hw1:wh (D.aM s {c with waits:=false}) s k<=1:=by
  cases k<;>simp only[wh]<;>first|omega|(split<;>omega)
 have Mx:aC.late q=D.late q:=by unfold St.late;rw[p.oc q hq]
 generalize wa (D.aM s {c with waits:=false}) s k=a at hE ⊢;generalize wb (D.aM s {c with waits:=false}) s k=b at hE ⊢;generalize wp (D.aM s {c with waits:=false}) s k=pp at hE ⊢;generalize wh (D.aM s {c with waits:=false}) s k=hh at hE hw1 ⊢;have hx1:=p.ox q hq;have hc1:=p.oc q hq;have hsc:Ws D (D.aM s {c with waits:=false}):=⟨rfl,rfl⟩
 have hE2:Ef N D aK O a b pp hh c.op.F:=⟨hE.sl,hE.ck,hE.en,hE.st,hE.hd,fun F Y=>by have:=hE.dh F Y;rw[hsc.Dh] at this;exact this,hE.nx⟩
 cases ht:D.ai.getD q none with
 |none=>
  have hcn:D.calls.getD q none=none:=by
   cases e:D.calls.getD q none with
   |none=>rfl
   |some c'=>obtain⟨t',ht',_⟩:=hw.cx q c' e;rw[ht] at ht';cases ht'
  rw[ht] at hx1;rw[hcn] at hc1;obtain⟨e1,e2,e3⟩:=xY (N:=N) hx1 hc1;rw[e1,e2];exact⟨zz _,zz _,Mx⟩
 |some u=>
  rw[ht] at hx1;have hT:=hw.tx q u ht;have htl:=tl q u ht;have gM:TL u (fun _=>0):=by
   split at htl
   . exact htl.mono (fun _=>zz _)
   . exact htl
  have hC:cnt u c.op.F<=12:=by have:=gM.mul c.op.F;have:=hT.op;omega
  cases hc:D.calls.getD q none with
  |none=>
   rw[hc] at hc1;obtain⟨e1,e2,e3⟩:=qB (N:=N) hx1 hc1;obtain⟨f1,f2,f3⟩:=qB (N:=N) ht hc;rw[e1,e2,f1,f2];have hJ:=hE2.ja hw1 hT.rd hC;rw[hws.aO];have:(3*N+120)*hh=3*N*hh+120*hh:=Nat.add_mul _ _ _;exact⟨by omega,by omega,Mx⟩
  |some c'=>
   rw[hc] at hc1;obtain⟨u',hu',hcx⟩:=hw.cx q c' hc;rw[ht] at hu';obtain rfl:=zj hu';obtain⟨k',hk',hkk⟩:=hcx.k;obtain⟨e1,e2,e3⟩:=mi (N:=N) hx1 hc1 hk';obtain⟨f1,f2,f3⟩:=mi (N:=N) ht hc hk';rw[e1,e2,f1,f2,hws.dm,hws.gN];have g1:=hE2.dm hw1 hw.sh.n1 hT hkk (hpv q c' k' hc hk') hC;have g2:=hE2.gN hkk;exact⟨by omega,g2,Mx⟩
theorem Pj {f g:Nat->Nat} {d:Nat} (hs:s<8) (h:∀ q,q≠s->g q<=f q+d):pV g+f s<=pV f+g s+7*d:=by
 have h0:=h 0;have h1:=h 1;have h2:=h 2;have h3:=h 3;have h4:=h 4;have h5:=h 5;have h6:=h 6;have h7:=h 7;unfold pV
 rcases (by omega:s=0∨s=1∨s=2∨s=3∨s=4∨s=5∨s=6∨s=7) with rfl|rfl|rfl|rfl|rfl|rfl|rfl|rfl<;>omega
theorem Es (h:TI D) (hw:WF N L n D) (hcw:WC N D) (tl:BQ D) (hs:s<8) (p:Stp N L n s D aC kd r t c k aK ok t2 c2):
 (∀ q,q≠s->aC.vG N q<=D.vG N q)∧(if late k then aC.vG N s<=D.vG N s∧(aC.ai.getD s none=none∨aC.late s=true) else aC.vG N s+1<=D.vG N s)∧BQ aC:=by
 have hws:Ws aK aC:=by
  obtain⟨l,cs,ts,XN,e⟩:=p.e1;rw[e];exact⟨rfl,rfl⟩
 have htl:=tl s t p.tx;rw[p.yH] at htl;have gM:TL t (fun _=>0):=htl.mono (fun _=>zz _);obtain⟨f1,f2,f3⟩:=mi (N:=N) p.tx p.ca p.ck;have hoth:=fun q hq=>Jp (q:=q) hw hcw tl p hq
 have hsum:=Pj (f:=D.zX N) (g:=aC.zX N) (d:=8*wh (D.aM s {c with waits:=false}) s k) hs (fun q hq=>(hoth q hq).2.1);have Pm:∀ q u,q≠s->aC.ai.getD q none=some u->match aC.gY q with|some k=>TL u (fun F=>pend F k)|none=>TL u (fun _=>0):=by
  intro q u hq hu;rw[p.ox q hq] at hu;have:aC.gY q=D.gY q:=by unfold St.gY;rw[p.oc q hq]
  rw[this];exact tl q u hu
 have hwt:wt N (D.aM s {c with waits:=false}) s k=3*wa (D.aM s {c with waits:=false}) s k+8*wb (D.aM s {c with waits:=false}) s k+(6*N+10)*wp (D.aM s {c with waits:=false}) s k+(3*N+176)*wh (D.aM s {c with waits:=false}) s k:=rfl;have hmul:(3*N+176)*wh (D.aM s {c with waits:=false}) s k=(3*N+120)*wh (D.aM s {c with waits:=false}) s k+56*wh (D.aM s {c with waits:=false}) s k:=by
  rw[<-Nat.add_mul]
 have Z:D.zX N s=D.gN N c k:=f2;have main:∀ B be,aC.zX N s<=B->B+wt N (D.aM s {c with waits:=false}) s k<=D.gN N c k->aC.rem N s<=be->(∀ q,q≠s->aC.vG N q<=D.vG N q)∧aC.vG N s+D.rem N s<=D.vG N s+be:=by
  intro B be h1 h2 h3;rw[hwt,hmul] at h2;unfold St.vG St.Gn;refine⟨fun q hq=>?_,by omega⟩;have:=(hoth q hq).1;omega
 by_cases hl:late k=true
 . rw[aW hl]
   obtain⟨g1,g2,g3,g4⟩:=Jo h hw tl p hl;have hbk:Cw.gN N k<=D.gN N c k:=Nat.le_add_right _ _
   cases ok with
   |none=>
    have xS:=g2 rfl;obtain⟨e1,e2,e3⟩:=xY (N:=N) xS (p.no rfl).2.2.1;obtain⟨m1,m2⟩:=main 0 0 (by omega) (by omega) (by omega);refine⟨m1,⟨by omega,.inl xS⟩,fun q u hu=>?_⟩
    by_cases e:q=s
    . subst e;rw[xS] at hu;cases hu
    . exact Pm q u e hu
   |some k'=>
    obtain⟨a1,a2,a3⟩:=g1 k' rfl;obtain⟨_,_,hc1,ht1,_⟩:=p.go k' rfl;obtain⟨e1,e2,e3⟩:=mi (N:=N) ht1 hc1 rfl;have e4:aC.gN N {c2 with k:=some k'} k'=Cw.gN N k':=by
     cases k'<;>first|rfl|cases a1
    have e5:aC.dm N t2 {c2 with k:=some k'} k'=0:=by
     cases k'<;>first|rfl|cases a1
    obtain⟨m1,m2⟩:=main (Cw.gN N k') 0 (by rw[e2,e4];exact zr _) (by omega) (by omega);refine⟨m1,⟨by omega,.inr (by rw[e3];exact a1)⟩,fun q u hu=>?_⟩
    by_cases e:q=s
    . subst e
      rw[ht1] at hu;obtain rfl:=zj hu;rw[p.lh rfl];exact a3
    . exact Pm q u e hu
 . have hl':late k=false:=by simpa using hl
   rw[bu hl]
   by_cases hf:∃ r',k=.fin r'
   . obtain⟨r',rfl⟩:=hf
     have hok:ok=none:=by
      have e1:=p.run;simp only[St.run] at e1;exact (jw _ _ _ _ ▸ e1).2.symm
     subst hok;obtain⟨_,hts,_⟩:=h.Ms hw p rfl;have Wq:c2.r.over=0:=by
      have e1:=p.run;simp only[St.run] at e1;obtain⟨e1,_⟩:=jw _ _ _ _ ▸ e1;obtain⟨d,m2⟩:=p.m2;rw[<-m2.ec,<-e1];unfold St.finish St.c St.aM;simp only;rw[aS _ _ _ _ (by show s<(D.calls.set s _).length;rw[nD,hw.sh.c8];exact p.m.s8),aW rfl];exact p.Ca.1
     have ht2:t2=t:=by
      apply p.tt;have e1:=p.run;simp only[St.run] at e1;obtain⟨e1,_⟩:=jw _ _ _ _ ▸ e1;rw[<-e1];exact p.tx
     subst ht2;have ht1:aC.ai.getD s none=some t2:=by
      rcases (p.no rfl).2.2.2 with ⟨_,g,_⟩|⟨g,_⟩
      . exact g
      . exact absurd Wq g
     obtain⟨e1,e2,e3⟩:=qB (N:=N) ht1 (p.no rfl).2.2.1;have hsw:Ws D aC:=by
      have e1:=p.run;simp only[St.run] at e1;obtain⟨e1,_⟩:=jw _ _ _ _ ▸ e1;refine Ws.trans ?_ hws;rw[<-e1];exact⟨rfl,rfl⟩
     have hw0:wt N (D.aM s {c with waits:=false}) s (.fin r')=0:=by simp[wt,wa,wb,wp,wh]
     have hbk:D.gN N c (.fin r')=6*N+1613:=rfl;have Zo:D.dm N t2 c (.fin r')=12+D.aO t2.reads:=rfl;obtain⟨m1,m2⟩:=main (6*N+1613) (11+D.aO t2.reads) (by omega) (by omega) (by rw[e1,hsw.aO];exact zr _);refine⟨m1,by rw[f1,Zo] at m2;omega,fun q u hu=>?_⟩
     by_cases e:q=s
     . subst e
       rw[ht1] at hu;obtain rfl:=zj hu;rw[p.Jm rfl];exact gM
     . exact Pm q u e hu
   . obtain⟨C,O,hcs,_,hpv⟩:=hcw
     have q0:Qt N D (D.aM s {c with waits:=false}):=Qt.aM D s _;obtain⟨b,B,h1,h2,h3⟩:=Ml (hcs.quiet q0) p.m p.Ca ((hpv s c k p.ca p.ck).same q0 p.Ca.lk) htl hl' (fun r' e=>hf ⟨r',e⟩);rw[p.run] at h3;obtain⟨k',d,e0,_,t',c',m',g1,g2,g3⟩:=h3;subst e0;simp only at m' g1 g2 g3;obtain⟨d2,m2⟩:=p.m2;have et:t2=t':=zj (m2.tx.symm.trans m'.tx);have ec:c2=c':=zj (m2.ca.symm.trans m'.ca);subst et;subst ec;obtain⟨_,_,hc1,ht1,_⟩:=p.go k' rfl;obtain⟨e1,e2,e3⟩:=mi (N:=N) ht1 hc1 rfl;obtain⟨x1,x2⟩:=Rw (D:=aC) c2 k' N t2 (some k');obtain⟨y1,y2⟩:=Gp (D:=D.aM s {c with waits:=false}) c k N t false;rw[y1] at h1;rw[y2] at h2;have hsc:Ws D (D.aM s {c with waits:=false}):=⟨rfl,rfl⟩
     have z1:(D.aM s {c with waits:=false}).dm N t c k=D.dm N t c k:=hsc.dm N t c k;have z2:(D.aM s {c with waits:=false}).gN N c k=D.gN N c k:=hsc.gN N c k;rw[z1] at h1;rw[z2] at h2;obtain⟨m1,m2⟩:=main B b (by rw[e2,x2,hws.gN];exact g2) h2 (by rw[e1,x1,hws.dm];exact g1);refine⟨m1,by rw[f1] at m2;omega,fun q u hu=>?_⟩
     by_cases e:q=s
     . subst e
       rw[ht1] at hu;obtain rfl:=zj hu;rw[p.lh rfl];exact g3
     . exact Pm q u e hu
end
def Ic (t:bL):Option K->Nat
 |none=>1
 |some .draw|some (.eX _ _)|some (.turn _ _)|some (.abort _ _)|some (.turns _ _)=>1
 |some _=>if t.ay=0 then 2 else 1
def _root_.Go.Proofs.YthicolbbmjfkfaaGreat.En.St.Aj (D:St) (s:Nat):Nat:=
 match D.ai.getD s none with
 |none=>0
 |some t=>(2000 - t.aR.length)+(if t.ay=0 then 1 else 0)+(if t.over then 0 else 1)+Ic t (D.gY s)
def _root_.Go.Proofs.YthicolbbmjfkfaaGreat.En.St.Cb (D:St):Nat:=D.aQ.length+pV D.Aj
section
variable {N L n s q cq d kd aa M:Nat} {D τ υ aC aK eF:St} {t t0 t2 u u2:bL} {c c2:dY} {r:mo} {k:K} {ok:Option K} {o:En.Op}
theorem TI.aR (h:TI D) (hm:D.aB<=2000) (ht:D.ai.getD s none=some t):t.aR.length<=D.aB:=by
 obtain⟨h1,h2⟩:=h.bo s t ht
 have h3 := mV (D.aB + 1) (0 :: t.aR) (by
   rw[List.nodup_cons]
   exact⟨fun hz=>by have:=(h2 0 hz).1;omega,h1⟩) (fun i hi=>by
   rcases List.mem_cons.1 hi with rfl|hi
   . omega
   . have:=(h2 i hi).2.1;omega)
 simp at h3;omega
theorem yc {f g:Nat->Nat} (hs:s<8) (h:∀ q,q≠s->g q=f q):pV g+f s=pV f+g s:=by
 have h0:=h 0;have h1:=h 1;have h2:=h 2;have h3:=h 3;have h4:=h 4;have h5:=h 5;have h6:=h 6;have h7:=h 7;unfold pV
 rcases (by omega:s=0∨s=1∨s=2∨s=3∨s=4∨s=5∨s=6∨s=7) with rfl|rfl|rfl|rfl|rfl|rfl|rfl|rfl<;>omega
theorem rQ (t:bL) (k:Option K):1<=Ic t k∧Ic t k<=2:=by
 unfold Ic;split<;>(try split)<;>omega
theorem MB (h:TI D) (hw:WF N L n D) (hs:s<8) (p:Stp N L n s D aC kd r t c k aK ok t2 c2):aC.Cb<=D.Cb:=by
 have hoth:∀ q,q≠s->aC.Aj q=D.Aj q:=by
  intro q hq;have:aC.gY q=D.gY q:=by unfold St.gY;rw[p.oc q hq]
  unfold St.Aj;rw[p.ox q hq,this]
 have hsum:=yc (s:=s) hs hoth;have hmd:=hw.sh.md;have Z:=h.aR hmd p.tx;have hg:D.Aj s=(2000 - t.aR.length)+(if t.ay=0 then 1 else 0)+(if t.over then 0 else 1)+Ic t (some k):=by
  unfold St.Aj;rw[p.tx,p.yH]
 have Wt:=(h.Eo hw p).1;have main:∀ x,aK.aQ.length+(2000 - t2.aR.length)+(if t2.ay=0 then 1 else 0)+(if t2.over then 0 else 1)<=D.aQ.length+(2000 - t.aR.length)+(if t.ay=0 then 1 else 0)+(if t.over then 0 else 1)->
  (∀ k',ok=some k'->Ic t2 (some k')<=Ic t (some k))->(ok=none->aC.ai.getD s none=none∨Ic t (some k)=2)->x=()->aC.Cb<=D.Cb:=by
  intro _ h1 h2 h3 _;unfold St.Cb
  cases ok with
  |some k'=>
   obtain⟨_,_,hc1,ht1,htl⟩:=p.go k' rfl;have hg1:aC.Aj s=(2000 - t2.aR.length)+(if t2.ay=0 then 1 else 0)+(if t2.over then 0 else 1)+Ic t2 (some k'):=by
    unfold St.Aj;rw[ht1,p.lh rfl]
   have:=h2 k' rfl;rw[htl];omega
  |none=>
   have hk0:=p.Jm rfl
   rcases (p.no rfl).2.2.2 with ⟨_,ht1,htl⟩|⟨_,ht1,htl⟩
   . have hg1:aC.Aj s=(2000 - t2.aR.length)+(if t2.ay=0 then 1 else 0)+(if t2.over then 0 else 1)+1:=by
      unfold St.Aj;rw[ht1,hk0];rfl
     rcases h3 rfl with h3|h3
     . rw[ht1] at h3;cases h3
     . rw[htl,jb,List.length_singleton]
       omega
   . have hg1:aC.Aj s=0:=by unfold St.Aj;rw[ht1]
     rw[htl];omega
 have Wu:∀ (u:bL) (k':K),u.ay≠0->Ic u (some k')=1:=by
  intro u k' hu;unfold Ic
  split<;>first|rfl|rw[bu hu]
 by_cases hA:Pf k=true
 . obtain⟨_,hts,htl,hal⟩:=h.Ms hw p hA
   have hb2:=Wt.aR (by rw[p.aB];exact hmd) hal;rw[p.aB] at hb2;refine main () ?_ (fun k' ek=>?_) (fun e=>?_) rfl
   . rw[hts.en,hts.ov]
     rcases htl with ⟨e1,e2⟩|⟨b,_,_,e1,e2⟩
     . rw[e1,e2];exact zr _
     . rw[e1,jb,List.length_singleton] at hb2
       rw[e1,e2,jb,jb,List.length_singleton,List.length_singleton];omega
   . have h1:=rQ t2 (some k');have h2:=rQ t (some k)
     by_cases h0:t.ay=0
     . cases k with
       |draw=>
        have e1:=p.run;simp only[St.run] at e1;subst ek;have:Ic t2 (some k')=1:=by
         split at e1
         . obtain⟨_,e2⟩:=jw _ _ _ _ ▸ e1
           obtain rfl:=zj e2;rfl
         . split at e1
           . obtain⟨_,e2⟩:=jw _ _ _ _ ▸ e1
             obtain rfl:=zj e2;rfl
           . obtain⟨_,e2⟩:=jw _ _ _ _ ▸ e1
             obtain rfl:=zj e2;rfl
        omega
       |eX w now=>cases hA
       |turn w now=>cases hA
       |eB=>cases hA
       |cZ=>cases hA
       |abort e r=>cases hA
       |turns l r=>cases hA
       |_=>show Ic t2 (some k')<=(if t.ay=0 then 2 else 1);rw[aW h0];exact h1.2
     . have:=Wu t2 k' (by rw[hts.en];exact h0)
       omega
   . obtain⟨r',rfl⟩:=xP hA (by rw[p.run];exact e)
     right;have yl:KT (qZ D t) (mF D) t (.fin r'):=by
      rcases h.kk s t _ p.tx p.yH with ⟨l,r,e⟩|hx
      . cases e
      . exact hx
     have:t.ay=0:=yl;simp only[Ic,aW this]
 . cases k with
   |eX w now=>
    obtain⟨_,rfl,h3⟩:=h.xQ hw p;have e1:=p.run;simp only[St.run] at e1;obtain⟨_,e2⟩:=jw _ _ _ _ ▸ e1;refine main () (by rw[h3];exact zr _) (fun k' ek=>?_) (fun e=>by rw[e] at e2;cases e2) rfl;rw[ek] at e2;obtain rfl:=zj e2;exact zr _
   |turn w now=>
    obtain⟨_,⟨_,rfl,h3,_,e2⟩|⟨_,rfl,h3,_,e2⟩⟩:=h.Ae hw p
    . refine main () (by rw[h3];exact zr _) (fun k' ek=>?_) (fun e=>by rw[e] at e2;cases e2) rfl
      rw[ek] at e2;obtain rfl:=zj e2;exact zr _
    . have yl:KT (qZ D t) (mF D) t (.turn w now):=by
       rcases h.kk s t _ p.tx p.yH with ⟨l,r,e⟩|hx
       . cases e
       . exact hx
      refine main () ?_ (fun k' ek=>?_) (fun e=>by rw[e] at e2;cases e2) rfl
      . rw[h3,jb,List.length_singleton,aW yl.1]
        show D.aQ.length+1+(2000 - t.aR.length)+(if aj (D.word 0)+1=0 then 1 else 0)+(if t.over then 0 else 1)<=_;rw[bu (by omega)];omega
      . rw[Wu _ k' (by show aj (D.word 0)+1≠0;omega)]
        exact (rQ t _).1
   |eB=>
    obtain⟨_,rfl,h3⟩:=h.xR hw p;have yl:KT (qZ D t2) (mF D) t2 .eB:=by
     rcases h.kk s t2 _ p.tx p.yH with ⟨l,r,e⟩|hx
     . cases e
     . exact hx
    have e1:=p.run;simp only[St.run] at e1;obtain⟨_,e2⟩:=jw _ _ _ _ ▸ e1;refine main () (by rw[h3];exact zr _) (fun k' ek=>?_) (fun e=>by rw[e] at e2;cases e2) rfl;rw[Wu _ k' yl];exact (rQ t2 _).1
   |cZ=>
    obtain⟨_,rfl,h3,e2⟩:=h.nU hw p;refine main () ?_ (fun k' ek=>?_) (fun e=>by rw[e] at e2;cases e2) rfl
    . rw[h3]
      show _+(2000 - t.aR.length)+(if t.ay=0 then 1 else 0)+0<=_
      split
      . exact zr _
      . rw[jb,List.length_singleton];omega
    . rw[ek] at e2
      obtain rfl:=zj e2;exact (rQ t _).1
   |abort e rs=>
    obtain⟨_,rfl,h3,e2⟩:=h.pK hw p;refine main () ?_ (fun k' ek=>?_) (fun e=>by rw[e] at e2;cases e2) rfl
    . rw[h3]
      show _+(2000 - t.aR.length)+(if t.ay=0 then 1 else 0)+0<=_
      split
      . exact zr _
      . rw[jb,List.length_singleton];omega
    . rw[ek] at e2
      obtain rfl:=zj e2;exact (rQ t _).1
   |turns l r0=>
    obtain⟨_,rfl,h3,e4,e5⟩:=h.pM hw p;refine main () (by rw[h3];exact zr _) (fun k' ek=>?_) (fun e=>?_) rfl
    . cases l with
      |nil=>rw[(e5 rfl).1] at ek;cases ek
      |cons x l=>
       rw[e4 x l rfl] at ek;obtain rfl:=zj ek;exact zr _
    . cases l with
      |nil=>
       have Y:=p.Ca.1
       rcases (p.no e).2.2.2 with ⟨g,_⟩|⟨_,g,_⟩
       . rw[(e5 rfl).2] at g;omega
       . exact .inl g
      |cons x l=>rw[e4 x l rfl] at e;cases e
   |_=>exact absurd rfl hA
end
def iW (f:Nat->Nat):Nat->Nat
 |0=>0
 |m+1=>iW f m+f m
section
variable {N L n s q cq d kd aa M:Nat} {D τ υ aC aK eF:St} {t t0 t2 u u2:bL} {c c2:dY} {r:mo} {k:K} {ok:Option K} {o:En.Op} {C:Nat->List Nat} {O:Nat->Nat}
theorem Ie {f g:Nat->Nat} (m:Nat) (h:∀ i,i<m->f i<=g i):iW f m<=iW g m:=by
 induction m with
 |zero=>exact zr _
 |succ m ih=>have:=ih (fun i hi=>h i (by omega));have:=h m (by omega);show iW f m+f m<=iW g m+g m;omega
theorem yf (f g:Nat->Nat) (m:Nat):iW (fun i=>f i+g i) m=iW f m+iW g m:=by
 induction m with
 |zero=>rfl
 |succ m ih=>show iW _ m+(f m+g m)=iW f m+f m+(iW g m+g m);omega
theorem Et (a:Nat) (f:Nat->Nat) (m:Nat):iW (fun i=>a*f i) m=a*iW f m:=by
 induction m with
 |zero=>rfl
 |succ m ih=>show iW _ m+a*f m=a*(iW f m+f m);rw[Nat.mul_add,ih]
theorem Eu (x v:Nat) (m:Nat):iW (fun i=>if x=i then v else 0) m=if x<m then v else 0:=by
 induction m with
 |zero=>rfl
 |succ m ih=>
  show iW _ m+(if x=m then v else 0)=_;rw[ih]
  split<;>split<;>split<;>omega
theorem pO (v m:Nat):iW (fun _=>v) m=v*m:=by
 induction m with
 |zero=>rfl
 |succ m ih=>show iW _ m+v=_;rw[ih,Nat.mul_succ]
theorem Jq (f:Nat->Nat) {m k:Nat} (h:m<=k):iW f m<=iW f k:=by
 induction k with
 |zero=>
  have:m=0:=by omega
  rw[this];exact zr _
 |succ k ih=>
  by_cases e:m=k+1
  . rw[e];exact zr _
  . have:=ih (by omega);show iW f m<=iW f k+f k;omega
theorem CS.Wv (h:CS N D C O) (hN:N<=256):∀ m,m<=64->∃ l:List Nat,l.Nodup∧l.length=iW (D.Dh) m∧∀ x∈l,x<N∧1<=O x∧O x<=m:=by
 intro m
 induction m with
 |zero=>intro _;exact⟨[],List.nodup_nil,rfl,fun x hx=>by cases hx⟩
 |succ m ih=>
  intro hm;obtain⟨l,h1,h2,h3⟩:=ih (by omega);refine⟨l++(C m).map ag,?_,?_,fun x hx=>?_⟩
  . rw[List.nodup_append]
    refine⟨h1,h.nd m (by omega),fun a ha b Z e=>?_⟩;obtain⟨y,hy,rfl⟩:=List.mem_map.1 Z;have h4:=(h.lo m (by omega) y hy).2;have h5:=(h3 a ha).2.2;rw[e] at h5;omega
  . rw[jb,List.length_map,h2]
    show _=iW D.Dh m+D.Dh m;rw[(h.Dh hN (by omega)).1]
  . rcases List.mem_append.1 hx with hx|hx
    . have:=h3 x hx;omega
    . obtain⟨y,hy,rfl⟩:=List.mem_map.1 hx
      have h4:=h.lo m (by omega) y hy;have:=h4.1.ag;omega
theorem CS.MC (h:CS N D C O) (hN:N<=256):iW D.cost 64<=128+6*N:=by
 obtain⟨l,h1,h2,h3⟩:=h.Wv hN 64 (by omega);have h4:=mV N l h1 (fun x hx=>(h3 x hx).1);have h5:iW D.cost 64=iW (fun _=>2) 64+iW (fun i=>6*D.Dh i) 64:=by
  rw[<-yf];rfl
 rw[h5,pO,Et];omega
theorem Jr (υ:St) (l:List (Nat×Nat×Bool)) (hl:∀ r∈l,r.1<64):υ.aO l=iW (fun k=>l.countP (fun r=>r.1==k)*υ.cost k) 64:=by
 induction l with
 |nil=>
  have:(fun k=>([]:List (Nat×Nat×Bool)).countP (fun r=>r.1==k)*υ.cost k)=fun _=>0:=by
   funext k;simp
  rw[this,pO];rfl
 |cons r l ih=>
  have h1:=ih (fun r hr=>hl r (nV _ hr));have h2:υ.aO (r::l)=υ.cost r.1+υ.aO l:=by
   unfold St.aO;rw[List.map_cons,List.sum_cons]
  have h3:(fun k=>(r::l).countP (fun r=>r.1==k)*υ.cost k)=fun k=>l.countP (fun r=>r.1==k)*υ.cost k+(if r.1=k then υ.cost r.1 else 0):=by
   funext k
   rw[List.countP_cons]
   by_cases e:r.1=k
   . rw[aW e,show (r.1==k)=true by simpa using e,aW rfl,Nat.add_mul,Nat.one_mul,e]
   . rw[bu e,show (r.1==k)=false by simpa using e,bu (by decide)];simp
  rw[h2,h1,h3,yf,Eu,aW (hl r iG)];omega
theorem Js (l:List (Nat×Nat×Bool)) (hl:∀ r∈l,r.1<64):l.length=iW (fun k=>l.countP (fun r=>r.1==k)) 64:=by
 induction l with
 |nil=>
  have:(fun k=>([]:List (Nat×Nat×Bool)).countP (fun r=>r.1==k))=fun _=>0:=by funext k;simp
  rw[this,pO];rfl
 |cons r l ih=>
  have h1:=ih (fun r hr=>hl r (nV _ hr));have h3:(fun k=>(r::l).countP (fun r=>r.1==k))=fun k=>l.countP (fun r=>r.1==k)+(if r.1=k then 1 else 0):=by
   funext k
   rw[List.countP_cons]
   by_cases e:r.1=k
   . rw[aW e,show (r.1==k)=true by simpa using e,aW rfl]
   . rw[bu e,show (r.1==k)=false by simpa using e,bu (by decide)]
  rw[h3,yf,Eu,aW (hl r iG),List.length_cons];omega
theorem Ew (υ:St) (l:List (Nat×Nat×Bool)) (hl:∀ r∈l,r.1<64) (hc:∀ k,l.countP (fun r=>r.1==k)<=12):υ.aO l<=12*iW υ.cost 64:=by
 rw[Jr υ l hl,<-Et];exact Ie _ (fun i _=>Nat.mul_le_mul_right _ (hc i))
theorem ME (υ:St):∀ (m k:Nat),υ.jq m k+2*iW υ.cost k=2*iW υ.cost (k+m):=by
 intro m
 induction m with
 |zero=>intro k;show 0+_=_;rw[Nat.add_zero];omega
 |succ m ih=>
  intro k;have h1:=ih (k+1);have h2:iW υ.cost (k+1)=iW υ.cost k+υ.cost k:=rfl;show 2*υ.cost k+υ.jq m (k+1)+_=_;rw[show k+(m+1)=k+1+m by omega];omega
theorem Pn (υ:St) {m k:Nat} (h:k+m<=64):υ.jq m k<=2*iW υ.cost 64:=by
 have h1:=ME υ m k;have h2:=Jq υ.cost h;omega
set_option maxHeartbeats 1600000 in
theorem Rx (h:CS N D C O) (hN:N<=256) (hT:TX N L n t) (Y:xh N L t c k) (hp:Pv N D O s cq k) (hc:∀ F,cnt t F<=12) (hop:c.op.F<64):D.dm N t c k<=2300+102*N:=by
 have hS:=h.MC hN;have hJ:D.aO t.reads<=12*iW D.cost 64:=Ew D t.reads hT.rd hc;have hC:∀ F,F<64->D.cost F<=2+6*N:=fun F Y=>by have:=(h.Dh hN Y).2;unfold St.cost;omega
 have hA:∀ hu:dR,iA t c hu->D.dG t c hu<=402+6*N+14*iW D.cost 64:=by
  intro hu hh;have h1:=hC hu.F hh.1;unfold St.dG;have h2:=hh.2
  split at h2
  . rename_i e1;simp only[e1];omega
  . rename_i k e1
    simp only[e1];have:=Pn D (m:=c.op.hi - k) (k:=k+1) (by have:=hh.1;omega);omega
  . rename_i e1;simp only[e1];omega
  . rename_i i l e1
    simp only[e1];have:=vk D t.reads (i+1);omega
 have hsg:∀ mb,D.sg N mb<=6*N+10:=fun mb=>by unfold St.sg;split<;>omega
 have hst:∀ i v x,D.st i v x<=x:=fun i v x=>by unfold St.st;split<;>omega
 have hD:∀ l,Path N D O cq l->l≠0->D.Dn l<=N:=fun l hp hl=>by have:=hp.zo hN;have:=this.2 hl;omega
 cases k with
 |fin r=>simp only[St.dm];omega
 |start hu=>have:=hA hu Y;have:=hC hu.F Y.1;simp only[St.dm];omega
 |visit hu l=>have:=hA hu Y.1;have:=hD l hp Y.2.ne;simp only[St.dm];omega
 |maker hu l id=>have:=hA hu Y.1;have:=hD l hp Y.2.1.ne;simp only[St.dm];omega
 |older hu l=>have:=hA hu Y.1;have:=hD l hp Y.2.ne;simp only[St.dm];omega
 |ended hu l mb=>have:=hA hu Y.1;have:=hD l hp Y.2.1.ne;have:=hsg mb;simp only[St.dm];omega
 |ik hu l mb id=>have:=hA hu Y.1;have:=hD l hp Y.2.1.ne;have:=hsg mb;simp only[St.dm];omega
 |seen hu l mb=>have:=hA hu Y.1;have:=hD l hp Y.2.1.ne;have:=hsg mb;simp only[St.dm];omega
 |again en=>simp only[St.dm];omega
 |own l=>simp only[St.dm];omega
 |iw l w id=>have:=hst (af l 1) w 8;simp only[St.dm];omega
 |claim l w=>have:=hst (af l 1) w 8;simp only[St.dm];omega
 |fresh l=>have:=(h.Dh hN hop).2;simp only[St.dm];omega
 |next l head a=>have:=hD a hp.2 Y.2.2.1.ne;have:=hst (9+c.op.F) head (3*N+20);simp only[St.dm];omega
 |free l head a=>have:=hD a hp.2 Y.2.2.1.ne;have:=hst (9+c.op.F) head (3*N+20);simp only[St.dm];omega
 |dX l head a id=>have:=hD a hp.2 Y.2.2.1.ne;have:=hst (9+c.op.F) head (3*N+20);simp only[St.dm];omega
 |fJ x l head=>have:=hst (9+c.op.F) head (3*N+20);simp only[St.dm];cases x<;>simp<;>omega
 |eU x l head=>have:=hst (9+c.op.F) head (3*N+20);simp only[St.dm];cases x<;>simp<;>omega
 |push l head=>have:=hst (9+c.op.F) head (3*N+20);simp only[St.dm];omega
 |dV l head=>have:=hst (9+c.op.F) head (3*N+20);simp only[St.dm];omega
 |over l=>simp only[St.dm];omega
 |iB l head=>have:=hst (9+c.op.F) head 8;simp only[St.dm];omega
 |eu l head=>have:=hst (9+c.op.F) head 8;simp only[St.dm];omega
 |draw=>simp only[St.dm];omega
 |eX w now=>have:=hst 0 w 3;simp only[St.dm];omega
 |turn w now=>have:=hst 0 w 3;simp only[St.dm];omega
 |eB=>simp only[St.dm];omega
 |wait i=>exact zz _
 |cZ=>exact zz _
 |abort e r=>exact zz _
 |turns l r=>exact zz _
theorem Ry (k:K) (hl:∀ l r,k=.turns l r->l.length<=192):D.gN N c k<=9*N+2008:=by
 have hst:∀ i v x,D.st i v x<=x:=fun i v x=>by unfold St.st;split<;>omega
 have hx:D.xs c k<=8:=by
  unfold St.xs
  split
  all_goals first|exact hst _ _ _|exact zz _|(split<;>first|exact hst _ _ _|exact zz _)
 have Z:Cw.gN N k<=9*N+2000:=by
  unfold Cw.gN tF
  split
  all_goals first|omega|(split<;>omega)|skip
  rename_i l r;have:=hl l r rfl;omega
 unfold St.gN;omega
theorem Rz (hw:WF N L n D) (hcw:WC N D) (tl:BQ D) (s:Nat):D.vG N s<=18364+174*N:=by
 obtain⟨C,O,hcs,_,hpv⟩:=hcw;have hN:=hw.sh.n1;have Z:∀ q,D.zX N q<=9*N+2008∧D.rem N q<=2300+102*N:=by
  intro q
  cases ht:D.ai.getD q none with
  |none=>
   have hcn:D.calls.getD q none=none:=by
    cases e:D.calls.getD q none with
    |none=>rfl
    |some c'=>obtain⟨t',ht',_⟩:=hw.cx q c' e;rw[ht] at ht';cases ht'
   obtain⟨e1,e2,e3⟩:=xY (N:=N) ht hcn;rw[e1,e2];exact⟨zz _,zz _⟩
  |some t=>
   have hT:=hw.tx q t ht;have htl:=tl q t ht
   cases hc:D.calls.getD q none with
   |none=>
    obtain⟨e1,e2,e3⟩:=qB (N:=N) ht hc;have hk0:D.gY q=none:=by unfold St.gY;rw[hc];rfl
    rw[hk0] at htl;have hS:=hcs.MC hN;have hJ:D.aO t.reads<=12*iW D.cost 64:=Ew D t.reads hT.rd (fun F=>by have:=htl.mul F;have:=hT.op;show cnt t F<=12;omega);rw[e1,e2];exact⟨by omega,by omega⟩
   |some c=>
    obtain⟨u',hu',hcx⟩:=hw.cx q c hc;rw[ht] at hu';obtain rfl:=zj hu';obtain⟨k',hk',hkk⟩:=hcx.k;obtain⟨e1,e2,e3⟩:=mi (N:=N) ht hc hk';have hk0:D.gY q=some k':=by unfold St.gY;rw[hc];exact hk'
    rw[hk0] at htl;rw[e1,e2];refine⟨Ry k' (fun l r e=>?_),Rx hcs hN hT hkk (hpv q c k' hc hk') (fun F=>by have:=htl.mul F;have:=hT.op;omega) (Ej hcx.op)⟩;subst e;have h1:=htl.mul 0;have h2:=hT.op;simp only[pend] at h1
    split at h1<;>omega
 have h1:=(Z s).2;have h2:D.Gn N<=8*(9*N+2008):=by
  unfold St.Gn pV;have a0:=(Z 0).1;have a1:=(Z 1).1;have a2:=(Z 2).1;have a3:=(Z 3).1;have a4:=(Z 4).1;have a5:=(Z 5).1;have a6:=(Z 6).1;have a7:=(Z 7).1;omega
 unfold St.vG;omega
theorem WF.sharp (h:WF N L n D) (hi:TI D) (tl:BQ D) (h1:D.aQ.length<=aa) (h2:D.cuts<=aa) (hG:2000<=aa):WF N L aa D:=by
 have hsh:=h.sh;have hN:=hsh.n1;have hwn:D.jh<=aa:=by
  cases e:D.listed with
  |true=>have:=hsh.bP.sm e;omega
  |false=>have:=(hsh.bP.w0 e).1;omega
 refine⟨⟨hsh.sl,hsh.lm,hsh.n1,hsh.l1,hsh.nw,hsh.nt,hsh.nv,hsh.t8,hsh.c8,hsh.md,hsh.wd,hsh.bP,hwn,h1,hsh.tp⟩,⟨h.sx.so,h.sx.lo,h.sx.cu,h.sx.cn,h2⟩,fun s t ht=>?_,h.ti,h.cx⟩;have hT:=h.tx s t ht;have htl:=tl s t ht;have gM:TL t (fun _=>0):=by
  split at htl
  . exact htl.mono (fun _=>zz _)
  . exact htl
 have Y:=gM.Gq;have Z:=hi.aR hsh.md ht;have hmd:=hsh.md;have hr:t.reads.length<=768:=by
  rw[Js t.reads hT.rd];have:=Ie (f:=fun k=>t.reads.countP (fun r=>r.1==k)) (g:=fun _=>12) 64 (fun i _=>by have:=gM.mul i;have:=hT.op;show cnt t i<=12;omega);rw[pO] at this;omega
 exact⟨hT.i1,hT.i2,hT.op,hT.bg,hT.en,hT.ce,hT.ky,by omega,hT.rd,by omega,hT.bd,by omega⟩
end
section
variable {N L n s q cq d kd aa M:Nat} {D τ υ aC aK eF:St} {t t0 t2 u u2:bL} {c c2:dY} {r:mo} {k:K} {ok:Option K} {o:En.Op} {C:Nat->List Nat} {O:Nat->Nat}
theorem Po (k:Nat):∀ (F:Nat) (τ:St) (c:dY),Mid N L n s d D τ t c->TL t (fun k=>if F<=k then 1 else 0)->∃ t' c',Mid N L n s d D (iH s k τ F).1 t' c'∧TL t' (fun q=>pend q (iH s k τ F).2):=by
 induction k with
 |zero=>
  intro F τ c m tl;exact⟨t,c,m,tl.mono (fun _=>zz _)⟩
 |succ k ih=>
  intro F τ c m tl;unfold iH;rw[m.ec,m.et]
  split
  . exact⟨t,c,m,tl.mono (fun _=>zz _)⟩
  . have BJ:TL t (fun k=>if F+1<=k then 1 else 0):=tl.mono (fun k=>by split<;>split<;>omega)
    split
    . rename_i x hx
      cases hth:x.there with
      |true=>
       simp only[if_true];exact ih (F+1) _ _ (m.tell F (τ.valueOf x.own)) BJ
      |false=>
       simp only[Bool.false_eq_true,if_false];exact ih (F+1) _ c m BJ
    . exact⟨t,c,m,tl⟩
theorem Pp (m:Mid N L n s d D τ t c) (tl:TL t (fun _=>0)) (x:Bool) (G head:Nat):∃ t' c',Mid N L n s d D (τ.slot s x G head).1 t' c'∧TL t' (fun q=>pend q (τ.slot s x G head).2):=by
 obtain⟨t',c',h1,_,_,h4⟩:=uG τ m tl x G head;exact⟨t',c',h1,h4⟩
theorem MF (m:Mid N L n s d D τ t c) (tl:TL t (fun _=>if gU c.op then 0 else 1)):∃ t' c',Mid N L n s d D (τ.first s).1 t' c'∧TL t' (fun q=>pend q (τ.first s).2):=by
 have et:=m.et;have ec:=m.ec;have gM:TL t (fun _=>0):=tl.mono (fun _=>zz _);unfold St.first;simp only;rw[et,ec];have hE:∀ kk,c.op.kind=kk->(kk≠6∧kk≠7)->TL t (fun _=>1):=by
  intro kk e Y;have:gU c.op=false:=by unfold gU;rw[e];simp;omega
  rw[this] at tl
  simpa using tl
 split
 . rename_i e
   have t1:=hE 1 e (by omega)
   split
   . refine⟨t,c,m,?_⟩
     split<;>exact gM
   . exact⟨t,c,m,t1.mono (fun q=>by show (if q=_ then 1 else 0)<=1;split<;>omega)⟩
 . rename_i e
   have t1:=hE 5 e (by omega);unfold St.scan;exact Po _ _ _ c m (t1.mono (fun q=>by split<;>omega))
 . exact⟨t,c,m,gM⟩
 . exact⟨t,c,m,gM⟩
 . rename_i e1 e5 e6 e7
   have t1:=hE c.op.kind rfl ⟨e6,e7⟩
   split
   . split
     . exact⟨t,c,m,gM⟩
     split
     . exact⟨t,c,m,gM⟩
     split
     . exact Pp m gM true 0 0
     . exact⟨t,c,m,gM⟩
   . exact⟨t,c,m,t1.mono (fun q=>by show (if q=_ then 1 else 0)<=1;split<;>omega)⟩
theorem BQ.kY (h:BQ D) (p:RX N L n s D aC o t k eF t2 c2):BQ aC:=by
 have hk0:D.gY s=none:=by unfold St.gY;rw[p.ca];rfl
 have tl:=h s t p.tx;rw[hk0] at tl;have BJ:TL (jD o t) (fun _=>if gU (gW o (D.seq+1)).op then 0 else 1):=by
  show TL (jD o t) (fun _=>if gU o then 0 else 1);unfold jD
  split
  . exact tl
  . exact⟨fun F=>by have:=tl.mul F;show cnt t F+1<=t.ops+1;omega,tl.kd,tl.kl⟩
 obtain⟨t',c',m',h4⟩:=MF p.m BJ;rw[p.run] at m' h4;have e:t2=t':=zj (p.m2.tx.symm.trans m'.tx);subst e;have hk1:aC.gY s=some k:=by unfold St.gY;rw[p.cc];rfl
 intro q u hu
 by_cases e:q=s
 . subst e
   rw[p.tt] at hu;obtain rfl:=zj hu;rw[hk1];exact h4
 . rw[p.ox q e] at hu
   have:aC.gY q=D.gY q:=by unfold St.gY;rw[p.oc q e]
   rw[this];exact h q u hu
theorem BQ.same (h:BQ D) (hx:τ.ai=D.ai) (hc:τ.calls=D.calls):BQ τ:=by
 intro q u hu;rw[hx] at hu;have:τ.gY q=D.gY q:=by unfold St.gY;rw[hc]
 rw[this];exact h q u hu
theorem BQ.aJ (h:BQ D) {ax:Nat} (hn:∀ q,q≠s->aC.ai.getD q none=D.ai.getD q none) (hc:aC.calls=D.calls) (ht:aC.ai.getD s none=some (gB d ax cq)) (hs:D.calls.getD s none=none):BQ aC:=by
 intro q u hu;have hko:aC.gY q=D.gY q:=by unfold St.gY;rw[hc]
 rw[hko]
 by_cases e:q=s
 . subst e
   rw[ht] at hu;obtain rfl:=zj hu;have:D.gY q=none:=by unfold St.gY;rw[hs];rfl
   rw[this];exact⟨fun F=>zz _,List.nodup_nil,fun k Y=>by cases Y⟩
 . rw[hn q e] at hu;exact h q u hu
theorem BQ.new (N L:Nat):BQ (En.new N L):=fun q u hu=>by rw[Er] at hu;cases hu
structure LI (N L n:Nat) (D:St):Prop where
 wf:WF N L n D
 wc:WC N D
 ti:TI D
 tt:TT D
 tl:BQ D
theorem LI.mono {n':Nat} (h:LI N L n D) (hn:n<=n'):LI N L n' D:=⟨h.wf.mono hn,h.wc,h.ti,h.tt,h.tl⟩
theorem LI.sharp (h:LI N L n D) (h1:D.aQ.length<=aa) (h2:D.cuts<=aa) (hG:2000<=aa):LI N L aa D:=⟨h.wf.sharp h.ti h.tl h1 h2 hG,h.wc,h.ti,h.tt,h.tl⟩
theorem LI.step (h:LI N L n D) (hs:s<8) (hst:ig D s=some (aC,kd,r)) (hw:WF N L (n+3) aC):LI N L (n+3) aC:=by
 obtain⟨t,c,k,aK,ok,t2,c2,p⟩:=h.wf.parts hs hst;exact⟨hw,h.wc.step h.wf hs hst,(h.ti.Eo h.wf p).1,h.tt.step h.ti h.wf p,(Es h.ti h.wf h.wc h.tl hs p).2.2⟩
theorem LI.kY (h:LI N L n D) (hs:s<8) (hst:jo D s o=some aC) (hw:WF N L n aC):LI N L n aC:=by
 obtain⟨t,k,eF,t2,c2,p⟩:=h.wf.BO hs hst;exact⟨hw,h.wc.kY h.wf hs hst,(h.ti.kY h.wf p).1,h.tt.kY h.ti h.wf hs hst,h.tl.kY p⟩
theorem LI.aJ (h:LI N L n D) (hs:s<8) {ax id:Nat} (Z:kU D s ax=some (aC,id)) (hw:WF N L (n+1) aC) (hn:∀ q,q≠s->aC.ai.getD q none=D.ai.getD q none) (hc:aC.calls=D.calls) (ht:aC.ai.getD s none=some (gB d ax cq)) (hcs:D.calls.getD s none=none):LI N L (n+1) aC:=
 ⟨hw,h.wc.aJ h.wf hs Z,(h.ti.aJ h.tt h.wf hs Z).1,(h.ti.aJ h.tt h.wf hs Z).2,h.tl.aJ hn hc ht hcs⟩
theorem LI.bX (h:LI N L n D):LI N L (n+1) D.bX.1:=by
 obtain⟨h1,-,-,-,-,-,-,h8,h9,-⟩:=h.wf.bX;exact⟨h1,h.wc.bX h.wf,(h.ti.bX h.tt h.wf).1,(h.ti.bX h.tt h.wf).2,h.tl.same h8 h9⟩
theorem LI.tick (h:LI N L n D):LI N L n D.tick:=by
 refine⟨h.wf.tick,h.wc.tick h.wf,h.ti.tick,?_,h.tl.same rfl rfl⟩;obtain⟨bs,h1,h2⟩:=h.tt;exact⟨bs,h1,h2⟩
theorem LI.new {N L:Nat} (h1:N<=256) (h2:L<=1099511627776):LI N L 0 (En.new N L):=⟨WF.new h1 h2,WC.new N L,(TI.new N L).1,(TI.new N L).2,BQ.new N L⟩
/- Turns. -/
def jE:En.Op:=⟨6,0,0,0⟩
def turn (D:St) (s:Nat):Option St:=
 if (D.ai.getD s none).isSome then (if (D.calls.getD s none).isSome then (ig D s).map (·.1) else jo D s jE) else some D
def RY (t:bL):K->Nat
 |.turns l _=>l.length+1
 |.cZ|.abort _ _=>200
 |.wait i=>201+(t.aR.length - i)
 |_=>0
def _root_.Go.Proofs.YthicolbbmjfkfaaGreat.En.St.lm (D:St) (s:Nat):Nat:=match D.gY s with|some k=>RY (D.t s) k|none=>0
def MG (D:St) (t:bL):K->Prop
 |.turns _ _|.cZ|.abort _ _=>True
 |.wait i=>iV D (t.aR.getD i 0)
 |_=>False
def prog (D:St) (s:Nat):Prop:=match D.gY s with|some k=>MG D (D.t s) k|none=>False
def gone (D:St) (s:Nat):Prop:=D.ai.getD s none=none
structure Turned (N s:Nat) (D τ:St):Prop where
 ph:∀ q,τ.vG N q<=D.vG N q
 me:gone τ s∨τ.late s=true∨τ.vG N s+1<=D.vG N s
 gn:∀ q,gone D q->gone τ q
 lt:∀ q,D.late q=true->gone τ q∨τ.late q=true
 lm:∀ q,q≠s->τ.lm q=D.lm q
 ls:D.late s=true->τ.lm s<=D.lm s∧(prog D s->τ.lm s+1<=D.lm s)
 pr:∀ q,q≠s->prog D q->prog τ q
 md:τ.aB=D.aB
 no:gone D s->τ=D
theorem Ig (hq:τ.gY q=D.gY q) (ht:τ.ai.getD q none=D.ai.getD q none):τ.lm q=D.lm q:=by
 unfold St.lm St.t;rw[hq,ht]
theorem Ex (Y:D.gY s=some k) (ht:D.ai.getD s none=some t):D.lm s=RY t k:=by
 have et:D.t s=t:=by unfold St.t;rw[ht];rfl
 unfold St.lm;rw[Y,et]
theorem qQ (Y:D.gY s=some k) (ht:D.ai.getD s none=some t):prog D s↔MG D t k:=by
 have et:D.t s=t:=by unfold St.t;rw[ht];rfl
 unfold prog;rw[Y,et]
theorem WF.yg (h:WF N L n D) (ht:D.ai.getD s none=none):D.calls.getD s none=none:=by
 cases e:D.calls.getD s none with
 |none=>rfl
 |some c'=>obtain⟨t',ht',_⟩:=h.cx s c' e;rw[ht] at ht';cases ht'
theorem Ak (hst:∀ b,iV D b->iV τ b) (Y:τ.gY q=D.gY q) (ht:τ.ai.getD q none=D.ai.getD q none) (h:prog D q):prog τ q:=by
 unfold prog at h ⊢;rw[Y];have:τ.t q=D.t q:=by unfold St.t;rw[ht]
 rw[this]
 cases e:D.gY q with
 |none=>rw[e] at h;exact h
 |some k=>
  rw[e] at h;simp only at h ⊢
  cases k<;>first|exact h|exact hst _ h
theorem Ey (h:LI N L n D) (hs:s<8) (p:Stp N L n s D aC kd r t c k aK ok t2 c2):Turned N s D aC:=by
 obtain⟨a1,a2,a3⟩:=Es h.ti h.wf h.wc h.tl hs p;have hko:∀ q,q≠s->aC.gY q=D.gY q:=fun q hq=>by unfold St.gY;rw[p.oc q hq]
 have hst:∀ b,iV D b->iV aC b:=by
  intro b Z;have hpl':aC.place b=D.place b:=by unfold St.place;rw[p.aG]
  obtain⟨_,_⟩:=h.ti.Eo h.wf p;unfold iV at Z ⊢;rw[hpl']
  cases e:wr (D.aM s {c with waits:=false}) s k with
  |none=>rw[p.rP e];exact Z
  |some jv=>
   obtain⟨j,v⟩:=jv
   by_cases hj:D.place b=j
   . have hlen:D.place b<D.words.length∨¬ D.place b<D.words.length:=Classical.em _
     have hov:=(p.jS e 0).2;have h1:=h.wf.sh.place b;have hA:Pf k=false:=by
      cases hA:Pf k with
      |false=>rfl
      |true=>
       have:=Rv p.Ca hA p.m.et p.m.ec e (Ej p.m.op);omega
     have h1':D.place b=73+N*3+b:=h1
     rcases hlen with hlen|hlen
     . rw[hj] at hlen
       have hv:=hov hlen;rw[hj,hv];rw[hj] at Z;have hpw:=h.ti.wd s t p.tx;rw[p.yH] at hpw
       cases k with
       |eX w now=>
        simp only[wr] at e
        split at e
        . rename_i hf
          obtain⟨rfl,rfl⟩:=jw _ _ _ _ ▸ zj e;have hf':D.word (D.place (aZ w))=pack 1 0:=hf;have hb':bA (D.word (D.place (aZ w)))=3∨bA (D.word (D.place (aZ w)))=4:=Z;rw[hf',fC (by omega)] at hb';omega
        . cases e
       |turn w now=>
        simp only[wr] at e
        split at e
        . obtain⟨rfl,rfl⟩:=jw _ _ _ _ ▸ zj e
          omega
        . cases e
       |eB=>
        simp only[wr] at e
        split at e
        . rename_i hf
          obtain⟨rfl,rfl⟩:=jw _ _ _ _ ▸ zj e;have hb':bA ((D.aM s {c with waits:=false}).word ((D.aM s {c with waits:=false}).place (aZ (aV ((D.aM s {c with waits:=false}).t s).ay ((D.aM s {c with waits:=false}).t s).id))))=3∨bA ((D.aM s {c with waits:=false}).word ((D.aM s {c with waits:=false}).place (aZ (aV ((D.aM s {c with waits:=false}).t s).ay ((D.aM s {c with waits:=false}).t s).id))))=4:=Z;rw[hf,fC (by omega)] at hb';omega
        . cases e
       |cZ=>
        obtain⟨rfl,rfl⟩:=jw _ _ _ _ ▸ zj e;rw[fC (by omega)];exact .inl rfl
       |abort x y=>
        obtain⟨rfl,rfl⟩:=jw _ _ _ _ ▸ zj e;rw[fC (by omega)];exact .inr rfl
       |turns l r=>
        have EC:=p.m.s8
        cases l with
        |nil=>
         obtain⟨rfl,rfl⟩:=jw _ _ _ _ ▸ zj e;omega
        |cons x l=>
         have:=(p.Ca.2.2 x iG).2;simp only[wr] at e
         split at e
         . obtain⟨rfl,rfl⟩:=jw _ _ _ _ ▸ zj e
           omega
         . cases e
       |_=>cases hA
     . have:aC.word (D.place b)=D.word (D.place b):=by
        have h1:aC.word (D.place b)=0:=by
         unfold St.word;rw[mM,q9 (by rw[show aC.words=aK.words by (obtain⟨l,cs,ts,XN,e⟩:=p.e1;rw[e]),p.runs.1,e];show (D.words.set j v).length<=_;rw[nD];omega)];rfl
        have h2:D.word (D.place b)=0:=by
         unfold St.word;rw[mM,q9 (by omega)];rfl
        rw[h1,h2]
       rw[this];exact Z
   . rw[(p.jS e _).1 hj];exact Z
 have hgo:∀ k',ok=some k'->aC.ai.getD s none=some t2:=fun k' e=>(p.go k' e).2.2.2.1
 have MH:D.late s=late k:=(mi (N:=N) p.tx p.ca p.ck).2.2;refine⟨fun q=>?_,?_,fun q hq=>?_,fun q hq=>?_,fun q hq=>Ig (hko q hq) (p.ox q hq),fun hl=>?_,fun q hq hp=>Ak hst (hko q hq) (p.ox q hq) hp,p.aB,fun hg=>by unfold gone at hg;rw[p.tx] at hg;cases hg⟩
 . by_cases e:q=s
   . subst e
     split at a2
     . exact a2.1
     . omega
   . exact a1 q e
 . split at a2
   . exact a2.2.elim .inl (fun x=>.inr (.inl x))
   . exact .inr (.inr a2)
 . by_cases e:q=s
   . subst e;unfold gone at hq;rw[p.tx] at hq;cases hq
   . unfold gone at hq ⊢;rw[p.ox q e];exact hq
 . by_cases e:q=s
   . subst e
     rw[MH] at hq;rw[aW hq] at a2;exact a2.2
   . refine .inr ?_
     unfold St.late at hq ⊢;rw[p.oc q e];exact hq
 . rw[MH] at hl
   rw[Ex p.yH p.tx,qQ p.yH p.tx];have hzero:ok=none->aC.lm s=0:=fun e=>by
    unfold St.lm;rw[p.Jm e]
   cases k with
   |wait i=>
    have hi:i<t.aR.length:=p.Ca
    cases ok with
    |none=>
     rw[hzero rfl];have hL:RY t (.wait i)=201+(t.aR.length - i):=rfl;omega
    |some k'=>
     have ht2:t2=t:=by
      apply p.tt;have e1:=p.run;simp only[St.run] at e1
      split at e1
      . obtain⟨e1,_⟩:=jw _ _ _ _ ▸ e1
        rw[<-e1];exact p.tx
      . split at e1
        . obtain⟨e1,_⟩:=jw _ _ _ _ ▸ e1
          rw[<-e1];exact p.tx
        . obtain⟨e1,_⟩:=jw _ _ _ _ ▸ e1
          rw[<-e1];exact p.tx
     subst ht2;rw[Ex (p.lh rfl) (hgo _ rfl)];have hL:RY t2 (.wait i)=201+(t2.aR.length - i):=rfl;have e1:=p.run;simp only[St.run,p.m.et] at e1;have Zp:MG D t2 (.wait i)=iV D (t2.aR.getD i 0):=rfl;rw[hL,Zp]
     split at e1
     . obtain⟨_,e2⟩:=jw _ _ _ _ ▸ e1
       obtain rfl:=zj e2;have hm:((D.aM s {c with waits:=false}).tick.t s)=t2:=p.m.tick.et;have e3:RY t2 (jT ((D.aM s {c with waits:=false}).tick.t s) (i+1))<=201+(t2.aR.length - (i+1)):=by
        rw[hm];unfold jT
        split
        . show 200<=_;omega
        . exact zr _
       omega
     . rename_i h3
       split at e1
       . obtain⟨_,e2⟩:=jw _ _ _ _ ▸ e1
         obtain rfl:=zj e2;have e3:RY t2 (.abort 14 4)=200:=rfl;omega
       . rename_i h4
         obtain⟨_,e2⟩:=jw _ _ _ _ ▸ e1;obtain rfl:=zj e2;refine⟨zr _,fun hp=>?_⟩
         rcases hp with hp|hp
         . exact absurd hp h3
         . exact absurd hp h4
   |cZ=>
    obtain⟨_,rfl,_,e4⟩:=h.ti.nU h.wf p;have htl:=h.tl s t p.tx;rw[p.yH] at htl;have:=xZ D (htl.mono (p':=fun _=>0) (fun _=>zz _));rw[Ex (p.lh e4) (hgo _ e4)];show (fG D t).length+1<=200∧(True->(fG D t).length+1+1<=200);exact⟨by omega,fun _=>by omega⟩
   |abort e rs=>
    obtain⟨_,rfl,_,e4⟩:=h.ti.pK h.wf p;have htl:=h.tl s t p.tx;rw[p.yH] at htl;have:=Ai D (htl.mono (p':=fun _=>0) (fun _=>zz _));rw[Ex (p.lh e4) (hgo _ e4)];show (gD D t).length+1<=200∧(True->(gD D t).length+1+1<=200);exact⟨by omega,fun _=>by omega⟩
   |turns l r0=>
    obtain⟨_,rfl,_,e4,e5⟩:=h.ti.pM h.wf p
    cases l with
    |nil=>
     rw[hzero (e5 rfl).1];show 0<=1∧(True->0+1<=1);exact⟨by omega,fun _=>by omega⟩
    |cons x l=>
     rw[Ex (p.lh (e4 x l rfl)) (hgo _ (e4 x l rfl))];show l.length+1<=l.length+1+1∧(True->l.length+1+1<=l.length+1+1);exact⟨by omega,fun _=>by omega⟩
   |_=>cases hl
theorem BR (h:LI N L n D) (hs:s<8) (p:RX N L n s D aC jE t k eF t2 c2):Turned N s D aC∧aC.aQ=D.aQ∧aC.cuts=D.cuts∧aC.Cb<=D.Cb:=by
 obtain⟨ws,hm⟩:=p.ws;obtain⟨_,hts,htl⟩:=h.ti.kY h.wf p;have hko:∀ q,q≠s->aC.gY q=D.gY q:=fun q hq=>by unfold St.gY;rw[p.oc q hq]
 have hk0:D.gY s=none:=by unfold St.gY;rw[p.ca];rfl
 have hst:∀ b,iV D b->iV aC b:=fun b Z=>by unfold iV at Z ⊢;rw[ws.place,ws.word];exact Z
 have er:=p.run;have Ww:(cO D s jE t).first s=(cO D s jE t,.draw):=by
  unfold St.first;simp only;rw[p.m.ec];rfl
 rw[Ww] at er;obtain⟨e4,ek⟩:=jw _ _ _ _ ▸ er;have Uo:aC.cuts=D.cuts:=by
  rw[p.e1,<-e4];rfl
 have Zq:t2=t:=by
  have h1:=p.m2.tx;rw[<-e4] at h1;have h2:=p.m.tx;rw[h1] at h2;exact zj h2
 subst Zq;subst ek;have hk1:aC.gY s=some .draw:=by unfold St.gY;rw[p.cc];rfl
 obtain⟨e1,e2,e3⟩:=mi (N:=N) p.tt p.cc rfl;obtain⟨f1,f2,f3⟩:=qB (N:=N) p.tx p.ca;have g1:aC.rem N s=10+D.aO t2.reads:=by rw[e1];show 10+aC.aO t2.reads=_;rw[ws.aO]
 have g2:aC.zX N s=6*N+1613:=by rw[e2];rfl
 have hoth:∀ q,q≠s->aC.rem N q=D.rem N q∧aC.zX N q=D.zX N q:=by
  intro q hq;unfold St.rem St.zX;rw[p.ox q hq,p.oc q hq]
  cases D.ai.getD q none with
  |none=>exact⟨rfl,rfl⟩
  |some u=>
   cases D.calls.getD q none with
   |none=>simp only[ws.aO];exact⟨trivial,trivial⟩
   |some c'=>
    cases Y:c'.k with
    |none=>simp only[Y];exact⟨trivial,trivial⟩
    |some k'=>simp only[Y,ws.dm,ws.gN];exact⟨trivial,trivial⟩
 have hbs:aC.Gn N=D.Gn N:=by
  have:=yc (f:=D.zX N) (g:=aC.zX N) hs (fun q hq=>(hoth q hq).2);unfold St.Gn;omega
 have Wx:aC.Cb<=D.Cb:=by
  have hg:∀ q,aC.Aj q=D.Aj q:=by
   intro q
   by_cases e:q=s
   . subst e
     unfold St.Aj;rw[p.tt,p.tx,hk1,hk0];rfl
   . unfold St.Aj
     rw[p.ox q e,hko q e]
  unfold St.Cb;rw[htl,show aC.Aj=D.Aj from funext hg];exact zr _
 refine⟨⟨fun q=>?_,.inr (.inr ?_),fun q hq=>?_,fun q hq=>?_,fun q hq=>Ig (hko q hq) (p.ox q hq),fun hl=>(by rw[f3] at hl;cases hl),fun q hq hp=>Ak hst (hko q hq) (p.ox q hq) hp,hm,fun hg=>by unfold gone at hg;rw[p.tx] at hg;cases hg⟩,htl,Uo,Wx⟩
 . unfold St.vG
   rw[hbs]
   by_cases e:q=s
   . subst e;rw[g1,f1];omega
   . rw[(hoth q e).1];exact zr _
 . unfold St.vG
   rw[hbs,g1,f1];omega
 . by_cases e:q=s
   . subst e;unfold gone at hq;rw[p.tx] at hq;cases hq
   . unfold gone at hq ⊢;rw[p.ox q e];exact hq
 . by_cases e:q=s
   . subst e;rw[f3] at hq;cases hq
   . refine .inr ?_
     unfold St.late at hq ⊢;rw[p.oc q e];exact hq
end
structure EI (N L aa M:Nat) (D:St):Prop where
 li:LI N L aa D
 ct:D.count<=M
 lk:D.aA<=M
 sq:D.seq<=M
 ga:D.Cb<=aa
 cu:D.cuts<=aa
def nA:List Nat->St->Option St
 |[],D=>some D
 |s::l,D=>match turn D s with|some aC=>nA l aC|none=>none
def rounds (l:List Nat):Nat->St->Option St
 |0,D=>some D
 |m+1,D=>match nA l D with|some aC=>rounds l m aC|none=>none
def jY (D:St):Prop:=∀ s,gone D s∨D.late s=true
structure Round (N:Nat) (l:List Nat) (D τ:St):Prop where
 ph:∀ q,τ.vG N q<=D.vG N q
 me:∀ s∈l,gone τ s∨τ.late s=true∨τ.vG N s+1<=D.vG N s
 gn:∀ q,gone D q->gone τ q
 lt:∀ q,D.late q=true->gone τ q∨τ.late q=true
 lm:jY D->∀ q,τ.lm q<=D.lm q
 pr:jY D->∀ s∈l,prog D s->τ.lm s+1<=D.lm s
 md:τ.aB=D.aB
section
variable {N L n s q cq d kd aa M:Nat} {D τ υ aC aK eF:St} {t t0 t2 u u2:bL} {c c2:dY} {r:mo} {k:K} {ok:Option K} {o:En.Op} {C:Nat->List Nat} {O:Nat->Nat}
theorem Stp.cuts (p:Stp N L n s D aC kd r t c k aK ok t2 c2):aC.cuts=D.cuts:=by
 obtain⟨l,cs,ts,tl,e⟩:=p.e1;obtain⟨d,m2⟩:=p.m2;rw[e];exact m2.sp.2.2.2
theorem Turned.same (h:gone D s) (hc:D.calls.getD s none=none):Turned N s D D:=
 ⟨fun _=>zr _,.inl h,fun _ h=>h,fun _ h=>.inr h,fun _ _=>rfl,fun hl=>(by unfold St.late at hl;rw[hc] at hl;cases hl),fun _ _ h=>h,rfl,fun _=>rfl⟩
theorem EI.turn (h:EI N L aa M D) (hG:2000<=aa) (Cc:aa<900000) (hM:M<1000000000000) (hs:s<8):∃ aC,turn D s=some aC∧EI N L aa (M+1) aC∧Turned N s D aC:=by
 have hct:=h.ct;have hlk:=h.lk;have BV:=h.sq;unfold Cw.turn
 cases ht:D.ai.getD s none with
 |none=>
  exact⟨D,rfl,⟨h.li,by omega,by omega,by omega,h.ga,h.cu⟩,Turned.same ht (h.li.wf.yg ht)⟩
 |some t=>
  simp only[Option.isSome_some,if_true]
  cases hc:D.calls.getD s none with
  |some c=>
   simp only[Option.isSome_some,if_true];obtain⟨aC,kd,r,hst,hwf,hc1,hc2,hl1,hl2,Ec,hmd,-⟩:=h.li.wf.step hs hc (by omega) (by omega) (by omega);obtain⟨t',c',k,aK,ok,t2,c2,p⟩:=h.li.wf.parts hs hst;have hg:=MB h.li.ti h.li.wf hs p;have Wy:=h.li.step hs hst hwf;have hga:aC.Cb<=aa:=fq hg h.ga;have Uo:aC.cuts<=aa:=by rw[p.cuts];exact h.cu
   rw[hst];refine⟨aC,rfl,⟨Wy.sharp (by unfold St.Cb at hga;omega) Uo hG,by omega,by omega,by omega,hga,Uo⟩,Ey h.li hs p⟩
  |none=>
   simp only[Option.isSome_none,Bool.false_eq_true,if_false];obtain⟨aC,hi,hwf,hc1,hl1,Ec,hmd,-⟩:=h.li.wf.kY hs ht hc (o:=jE) (by decide) (.inr (by decide)) (by omega) (by omega);obtain⟨t',k,eF,t2,c2,p⟩:=h.li.wf.BO hs hi;obtain⟨g1,g2,g3,g4⟩:=BR h.li hs p;have Wy:=h.li.kY hs hi hwf;exact⟨aC,hi,⟨Wy,by omega,by omega,by omega,fq g4 h.ga,by rw[g3];exact h.cu⟩,g1⟩
theorem jY.next (h:jY D) (hT:Turned N s D τ):jY τ:=fun q=>(h q).elim (fun x=>.inl (hT.gn q x)) (fun x=>hT.lt q x)
theorem EI.nA:∀ (l:List Nat) (D:St) (M:Nat),EI N L aa M D->2000<=aa->aa<900000->M+l.length<1000000000000->(∀ s∈l,s<8)->∃ aC,nA l D=some aC∧EI N L aa (M+l.length) aC∧Round N l D aC:=by
 intro l
 induction l with
 |nil=>
  intro D M h _ _ _ _;exact⟨D,rfl,h,⟨fun _=>zr _,fun s hs=>(by cases hs),fun _ h=>h,fun _ h=>.inr h,fun _ _=>zr _,fun _ s hs=>(by cases hs),rfl⟩⟩
 |cons s l ih=>
  intro D M h hG Cc hM hl;rw[List.length_cons] at hM;obtain⟨aC,e1,h1,T⟩:=h.turn hG Cc (by omega) (hl s iG);obtain⟨aK,e2,h2,be⟩:=ih aC (M+1) h1 hG Cc (by omega) (fun q hq=>hl q (nV _ hq));have Uq:jY D->∀ q,aC.lm q<=D.lm q:=by
   intro ha q
   by_cases e:q=s
   . subst e
     rcases ha q with g|g
     . rw[T.no g];exact zr _
     . exact (T.ls g).1
   . rw[T.lm q e];exact zr _
  refine⟨aK,?_,?_,⟨fun q=>fq (be.ph q) (T.ph q),fun q hq=>?_,fun q hg=>be.gn q (T.gn q hg),fun q hq=>?_,fun ha q=>fq (be.lm (ha.next T) q) (Uq ha q),fun ha q hq hp=>?_,be.md.trans T.md⟩⟩
  . show (match Cw.turn D s with|some aC=>Cw.nA l aC|none=>none)=_
    rw[e1];exact e2
  . rw[List.length_cons,show M+(l.length+1)=M+1+l.length by omega];exact h2
  . rcases List.mem_cons.1 hq with rfl|hq
    . rcases T.me with g|g|g
      . exact .inl (be.gn _ g)
      . exact (be.lt _ g).elim .inl (fun x=>.inr (.inl x))
      . exact .inr (.inr (by have:=be.ph q;omega))
    . rcases be.me q hq with g|g|g
      . exact .inl g
      . exact .inr (.inl g)
      . exact .inr (.inr (by have:=T.ph q;omega))
  . rcases T.lt q hq with g|g
    . exact .inl (be.gn _ g)
    . exact be.lt _ g
  . have Z:=be.lm (ha.next T) q
    by_cases e:q=s
    . subst e
      rcases ha q with g|g
      . exfalso
        have hcn:=h.li.wf.yg g;unfold prog at hp;have:D.gY q=none:=by unfold St.gY;rw[hcn];rfl
        rw[this] at hp;exact hp
      . have:=(T.ls g).2 hp
        omega
    . have hm:q∈l:=(List.mem_cons.1 hq).resolve_left e
      have:=be.pr (ha.next T) q hm (T.pr q e hp);have:=Uq ha q;omega
theorem LI.progress (h:LI N L n D) (ha:jY D):∀ (m:Nat) (s:Nat) (t:bL),D.ai.getD s none=some t->t.ay<=m->∃ q,q<8∧¬ gone D q∧prog D q:=by
 intro m
 induction m with
 |zero=>
  intro s t ht hm;have hs:s<8:=by
   cases hh:decide (s<8) with
   |true=>simpa using hh
   |false=>
    have h8:=h.wf.sh.t8
    rw [mM, q9 (by
                                                              have:¬ s<8:=by simpa using hh
                                                              omega)] at ht
    cases ht
  have P5:¬ gone D s:=by unfold gone;rw[ht];intro e;cases e
  have hl:=(ha s).resolve_left P5;refine⟨s,hs,P5,?_⟩;unfold St.late at hl
  cases hc:D.calls.getD s none with
  |none=>rw[hc] at hl;cases hl
  |some c=>
   rw[hc] at hl
   cases Y:c.k with
   |none=>simp only[Y] at hl;cases hl
   |some k=>
    simp only[Y] at hl;have hko:D.gY s=some k:=by unfold St.gY;rw[hc];exact Y
    rw[qQ hko ht]
    cases k with
    |wait i=>
     rcases h.ti.kk s t _ ht hko with ⟨l,r,e⟩|hx
     . cases e
     . exact absurd (Nat.le_zero.1 hm) hx
    |cZ=>trivial
    |abort e r=>trivial
    |turns l r=>trivial
    |_=>cases hl
 |succ m ih=>
  intro s t ht hm;have hs:s<8:=by
   cases hh:decide (s<8) with
   |true=>simpa using hh
   |false=>
    have h8:=h.wf.sh.t8
    rw [mM, q9 (by
                                                              have:¬ s<8:=by simpa using hh
                                                              omega)] at ht
    cases ht
  have P5:¬ gone D s:=by unfold gone;rw[ht];intro e;cases e
  have hl:=(ha s).resolve_left P5;unfold St.late at hl
  cases hc:D.calls.getD s none with
  |none=>rw[hc] at hl;cases hl
  |some c=>
   rw[hc] at hl
   cases Y:c.k with
   |none=>simp only[Y] at hl;cases hl
   |some k=>
    simp only[Y] at hl;have hko:D.gY s=some k:=by unfold St.gY;rw[hc];exact Y
    cases k with
    |wait i=>
     have yl:t.ay≠0:=by
      rcases h.ti.kk s t _ ht hko with ⟨l,r,e⟩|hx
      . cases e
      . exact hx
     obtain⟨u',hu',hcx⟩:=h.wf.cx s c hc;rw[ht] at hu';obtain rfl:=zj hu';obtain⟨k',hk',hkk⟩:=hcx.k;rw[Y] at hk';obtain rfl:=zj hk';have hi:i<t.aR.length:=hkk;obtain⟨b1,b2,b3,b4⟩:=(h.ti.bo s t ht).2 (t.aR.getD i 0) (DY hi)
     rcases b4 with b4|⟨s',t',g1,g2,g3,g4⟩
     . exact⟨s,hs,P5,(qQ hko ht).2 b4⟩
     . have hne:s≠s':=by
        rintro rfl;rw[ht] at g1;obtain rfl:=zj g1;exact b3 g2.symm
       have:=h.ti.ne s s' t t' ht g1 hne yl;unfold lim at g4;rw[bu yl] at g4;exact ih s' t' g1 (by omega)
    |cZ=>exact⟨s,hs,P5,(qQ hko ht).2 trivial⟩
    |abort e r=>exact⟨s,hs,P5,(qQ hko ht).2 trivial⟩
    |turns l r=>exact⟨s,hs,P5,(qQ hko ht).2 trivial⟩
    |_=>cases hl
theorem yh:D.live.length=0↔∀ s,s<8->gone D s:=by
 unfold St.live gone;rw[List.length_eq_zero_iff,List.filter_eq_nil_iff];constructor
 . intro h s hs
   have:=h s (List.mem_range.2 hs)
   simpa using this
 . intro h s hs
   rw[h s (List.mem_range.1 hs)];simp
theorem Ih {f g:Nat->Nat} (h:∀ q,g q<=f q) (hs:s<8) (hl:g s+1<=f s):pV g+1<=pV f:=by
 have h0:=h 0;have h1:=h 1;have h2:=h 2;have h3:=h 3;have h4:=h 4;have h5:=h 5;have h6:=h 6;have h7:=h 7;unfold pV
 rcases (by omega:s=0∨s=1∨s=2∨s=3∨s=4∨s=5∨s=6∨s=7) with rfl|rfl|rfl|rfl|rfl|rfl|rfl|rfl<;>omega
theorem jY.round {l:List Nat} (h:jY D) (hT:Round N l D τ):jY τ:=fun q=>(h q).elim (fun x=>.inl (hT.gn q x)) (fun x=>hT.lt q x)
theorem EI.RA {l:List Nat} (hl:∀ s∈l,s<8) (ha:∀ s,s<8->s∈l) (hG:2000<=aa) (Cc:aa<900000):∀ (m:Nat) (D:St) (M:Nat),EI N L aa M D->jY D->pV D.lm<=m->M+l.length*m<1000000000000->∃ j bF,j<=m∧rounds l j D=some bF∧bF.live.length=0∧EI N L aa (M+l.length*j) bF∧bF.aB=D.aB:=by
 intro m
 induction m with
 |zero=>
  intro D M h hall hm _;refine⟨0,D,zr _,rfl,yh.2 (fun s hs=>?_),h,rfl⟩
  rcases hall s with g|g
  . exact g
  . exfalso
    by_cases hg:gone D s
    . have hc:=h.li.wf.yg hg
      unfold St.late at g;rw[hc] at g;cases g
    . cases ht:D.ai.getD s none with
      |none=>exact hg ht
      |some t=>
       obtain⟨q,q8,_,hp⟩:=h.li.progress hall t.ay s t ht (zr _);have hz:D.lm q=0:=by
        have:=Ih (f:=D.lm) (g:=fun x=>if x=q then D.lm x - 1 else D.lm x) (s:=q) (fun x=>by show (if x=q then D.lm x - 1 else D.lm x)<=_;split<;>omega) q8
        by_cases e:D.lm q=0
        . exact e
        . have:=this (by show (if q=q then D.lm q - 1 else D.lm q)+1<=_;rw[aW rfl];omega)
          omega
       unfold prog at hp;unfold St.lm at hz
       cases Y:D.gY q with
       |none=>rw[Y] at hp;exact hp
       |some k=>
        rw[Y] at hp hz;simp only at hp hz
        cases k with
        |turns l r=>exact absurd hz (Nat.succ_ne_zero _)
        |cZ=>exact absurd hz (by show ¬ (200=0);omega)
        |abort e r=>exact absurd hz (by show ¬ (200=0);omega)
        |wait i=>exact absurd hz (by show ¬ (201+_=0);omega)
        |_=>exact hp
 |succ m ih=>
  intro D M h hall hm hM
  by_cases hlive:D.live.length=0
  . exact⟨0,D,zz _,rfl,hlive,h,rfl⟩
  . have hex:∃ s t,D.ai.getD s none=some t:=by
     refine Classical.byContradiction fun hn=>hlive (yh.2 fun s _=>?_)
     unfold gone
     cases ht:D.ai.getD s none with
     |none=>rfl
     |some t=>exact absurd ⟨s,t,ht⟩ hn
    obtain⟨s,t,ht⟩:=hex;obtain⟨q,q8,_,hp⟩:=h.li.progress hall t.ay s t ht (zr _);rw[Nat.mul_succ] at hM;obtain⟨aC,e1,h1,be⟩:=EI.nA l D M h hG Cc (by omega) hl;have hdec:=Ih (be.lm hall) q8 (be.pr hall q (ha q q8) hp);obtain⟨j,bF,hj,e2,h2,h3,h4⟩:=ih aC (M+l.length) h1 (hall.round be) (by omega) (by omega);refine⟨j+1,bF,by omega,?_,h2,?_,h4.trans be.md⟩
    . show (match Cw.nA l D with|some aC=>rounds l j aC|none=>none)=_
      rw[e1];exact e2
    . rw[Nat.mul_succ,show M+(l.length*j+l.length)=M+l.length+l.length*j by omega];exact h3
theorem vw (h:LI N L n D) (s:Nat):D.lm s<=2201:=by
 unfold St.lm
 cases Y:D.gY s with
 |none=>exact zz _
 |some k=>
  simp only
  cases ht:D.ai.getD s none with
  |none=>
   have hc:=h.wf.yg ht;unfold St.gY at Y;rw[hc] at Y;cases Y
  |some t=>
   have et:D.t s=t:=by unfold St.t;rw[ht];rfl
   rw[et];have Z:=h.ti.aR h.wf.sh.md ht;have hmd:=h.wf.sh.md;have htl:=h.tl s t ht;rw[Y] at htl;have hop:=(h.wf.tx s t ht).op
   cases k with
   |turns l r=>
    have h1:=htl.mul 0;simp only[pend] at h1;show l.length+1<=_
    split at h1<;>omega
   |wait i=>show 201+(t.aR.length - i)<=_;omega
   |cZ=>show 200<=_;omega
   |abort e r=>show 200<=_;omega
   |_=>exact zz _
theorem EI.RB {l:List Nat} (hl:∀ s∈l,s<8) (ha:∀ s,s<8->s∈l) (hG:2000<=aa) (Cc:aa<900000) {B:Nat} (hB:17608<=B):∀ (m:Nat) (D:St) (M:Nat),EI N L aa M D->(∀ s,gone D s∨D.late s=true∨D.vG N s<=m)->M+l.length*(m+1+B)<1000000000000->∃ j bF,j<=m+1+B∧rounds l j D=some bF∧bF.live.length=0∧EI N L aa (M+l.length*j) bF∧bF.aB=D.aB:=by
 intro m
 induction m with
 |zero=>
  intro D M h hall hM;rw[show 0+1+B=B+1 by omega,Nat.mul_succ] at hM;obtain⟨aC,e1,h1,be⟩:=EI.nA l D M h hG Cc (by omega) hl;have ha1:jY aC:=by
   intro s
   by_cases hs:s<8
   . rcases hall s with g|g|g
     . exact .inl (be.gn s g)
     . exact be.lt s g
     . rcases be.me s (ha s hs) with x|x|x
       . exact .inl x
       . exact .inr x
       . omega
   . left
     unfold gone;rw[mM,q9 (by rw[h1.li.wf.sh.t8];omega)];rfl
  have hsum:pV aC.lm<=17608:=by
   have a0:=vw h1.li 0;have a1:=vw h1.li 1;have a2:=vw h1.li 2;have a3:=vw h1.li 3;have a4:=vw h1.li 4;have a5:=vw h1.li 5;have a6:=vw h1.li 6;have a7:=vw h1.li 7;unfold pV;omega
  obtain⟨j,bF,hj,e2,h2,h3,h4⟩:=EI.RA hl ha hG Cc B aC (M+l.length) h1 ha1 (fq hsum hB) (by omega);refine⟨j+1,bF,by omega,?_,h2,?_,h4.trans be.md⟩
  . show (match Cw.nA l D with|some aC=>rounds l j aC|none=>none)=_
    rw[e1];exact e2
  . rw[Nat.mul_succ,show M+(l.length*j+l.length)=M+l.length+l.length*j by omega];exact h3
 |succ m ih=>
  intro D M h hall hM;rw[show m+1+1+B=m+1+B+1 by omega,Nat.mul_succ] at hM;obtain⟨aC,e1,h1,be⟩:=EI.nA l D M h hG Cc (by omega) hl;have ha1:∀ s,gone aC s∨aC.late s=true∨aC.vG N s<=m:=by
   intro s
   by_cases hs:s<8
   . rcases hall s with g|g|g
     . exact .inl (be.gn s g)
     . exact (be.lt s g).elim .inl (fun x=>.inr (.inl x))
     . rcases be.me s (ha s hs) with x|x|x
       . exact .inl x
       . exact .inr (.inl x)
       . exact .inr (.inr (by omega))
   . left
     unfold gone;rw[mM,q9 (by rw[h1.li.wf.sh.t8];omega)];rfl
  obtain⟨j,bF,hj,e2,h2,h3,h4⟩:=ih aC (M+l.length) h1 ha1 (by rw[Nat.add_assoc,Nat.add_comm l.length];exact hM);refine⟨j+1,bF,by omega,?_,h2,?_,h4.trans be.md⟩
  . show (match Cw.nA l D with|some aC=>rounds l j aC|none=>none)=_
    rw[e1];exact e2
  . rw[Nat.mul_succ,show M+(l.length*j+l.length)=M+l.length+l.length*j by omega];exact h3
theorem EI.ends {l:List Nat} (h:EI N L aa M D) (hl:∀ s∈l,s<8) (ha:∀ s,s<8->s∈l) (hG:2000<=aa) (Cc:aa<900000) (hM:M+l.length*(35973+174*N)<1000000000000):∃ j bF,j<=35973+174*N∧rounds l j D=some bF∧bF.live.length=0∧EI N L aa (M+l.length*j) bF∧bF.aB=D.aB:=by
 obtain⟨j,bF,h1,h2⟩:=EI.RB hl ha hG Cc (zr 17608) (18364+174*N) D M h (fun s=>.inr (.inr (Rz h.li.wf h.li.wc h.li.tl s))) (by rw[show 18364+174*N+1+17608=35973+174*N by omega];exact hM);exact⟨j,bF,by omega,h2⟩
theorem LI.Wz (h:LI N L n D) (hc:D.count<=M) (hl:D.aA<=M) (hs:D.seq<=M):EI N L (n+18032) M D:=by
 have hgm:D.Cb<=n+16032:=by
  have hg:∀ q,D.Aj q<=2004:=by
   intro q;unfold St.Aj
   split
   . exact zz _
   . rename_i t _
     have:=(rQ t (D.gY q)).2
     split<;>split<;>omega
  have a0:=hg 0;have a1:=hg 1;have a2:=hg 2;have a3:=hg 3;have a4:=hg 4;have a5:=hg 5;have a6:=hg 6;have a7:=hg 7;have:=h.wf.sh.tl;unfold St.Cb pV;omega
 have Uo:=h.wf.sx.cb;have htl:=h.wf.sh.tl;exact⟨h.mono (by omega),hc,hl,hs,by omega,by omega⟩
end
def eN:Nat->Nat->St->Option St
 |0,_,_=>none
 |f+1,i,D=>if D.live.length=0 then some D else match turn D (i % 8) with|some aC=>eN f (i+1) aC|none=>none
section
variable {N L n s q cq d kd aa M ae m i:Nat} {D τ bF aC aK:St} {t t2:bL} {c c2:dY} {r:mo} {k:K} {ok:Option K}
theorem Jt (h:D.live.length=0) (hs:s<8):turn D s=some D:=by
 have:=yh.1 h s hs;unfold gone at this;unfold turn;rw[this];rfl
theorem MI (ae:Nat):∀ (l:List Nat) (i:Nat) (D:St),(∀ j s,l[j]? =some s->s=(i+j) % 8)->nA l D=some aC->eN (ae+1) (i+l.length) aC=some bF->eN (ae+1+l.length) i D=some bF:=by
 intro l
 induction l with
 |nil=>
  intro i D _ h1 h2;obtain rfl:=zj h1;exact h2
 |cons s l ih=>
  intro i D hl h1 h2;have hs:s=i % 8:=hl 0 s rfl;have h1':(match turn D s with|some τ=>nA l τ|none=>none)=some aC:=h1
  cases e:turn D s with
  |none=>rw[e] at h1';cases h1'
  |some τ=>
   rw[e] at h1';have h3:=ih (i+1) τ (fun j s hj=>by rw[hl (j+1) s hj];congr 1;omega) h1' (by rw[show i+1+l.length=i+(s::l).length by rw[List.length_cons];omega];exact h2);rw[List.length_cons,show ae+1+(l.length+1)=ae+1+l.length+1 by omega];unfold eN
   by_cases h0:D.live.length=0
   . rw[aW h0]
     rw[Jt h0 (by omega)] at e;obtain rfl:=zj e;rw[show ae+1+l.length=ae+l.length+1 by omega] at h3;unfold eN at h3;rw[aW h0] at h3;exact h3
   . rw[bu h0,<-hs,e];exact h3
theorem Ju:∀ (m i:Nat) (D:St),i % 8=0->rounds (List.range 8) m D=some bF->bF.live.length=0->eN (8*m+1) i D=some bF:=by
 intro m
 induction m with
 |zero=>
  intro i D _ h1 h2;obtain rfl:=zj h1;unfold eN;rw[aW h2]
 |succ m ih=>
  intro i D hi h1 h2;have h1':(match nA (List.range 8) D with|some aC=>rounds (List.range 8) m aC|none=>none)=some bF:=h1
  cases e:nA (List.range 8) D with
  |none=>rw[e] at h1';cases h1'
  |some aC=>
   rw[e] at h1';have h3:=ih (i+8) aC (by omega) h1' h2
   have h4 := MI (8 * m) (List.range 8) i D (fun j s hj => by
     rw[List.getElem?_eq_some_iff] at hj
     obtain⟨hlt,hj⟩:=hj
     rw[List.getElem_range] at hj
     rw[List.length_range] at hlt
     omega) e (by rw[List.length_range];exact h3)
   rw[List.length_range] at h4;rw[show 8*(m+1)+1=8*m+1+8 by omega];exact h4
theorem EI.eN (h:EI N L aa M D) (hG:2000<=aa) (Cc:aa<900000) (hM:M<900000000000) (hN:N<=256):∃ ae bF,ae<=8*(35973+174*N)+1∧Cw.eN ae 0 D=some bF∧bF.live.length=0:=by
 obtain⟨j,bF,h1,h2,h3,h4⟩:=h.ends (l:=List.range 8) (fun s hs=>List.mem_range.1 hs) (fun s hs=>List.mem_range.2 hs) hG Cc (by rw[List.length_range];omega);exact⟨8*j+1,bF,by omega,Ju j 0 D rfl h2 h3,h3⟩
/- How many live. -/
def _root_.Go.Proofs.YthicolbbmjfkfaaGreat.En.St.al (D:St):Nat:=pV (fun s=>if (D.ai.getD s none).isSome then 1 else 0)
theorem Ii (h:∀ q,(aC.ai.getD q none).isSome=(D.ai.getD q none).isSome):aC.al=D.al:=by
 unfold St.al;rw[show (fun s=>if (aC.ai.getD s none).isSome then 1 else 0)=fun s=>if (D.ai.getD s none).isSome then 1 else 0 from funext fun q=>by rw[h q]]
theorem Pq (hs:s<8) (ho:∀ q,q≠s->aC.ai.getD q none=D.ai.getD q none) (h1:aC.ai.getD s none=none) (h2:(D.ai.getD s none).isSome=true):aC.al+1=D.al:=by
 have:=yc (f:=fun s=>if (D.ai.getD s none).isSome then 1 else 0) (g:=fun s=>if (aC.ai.getD s none).isSome then 1 else 0) hs (fun q hq=>by simp only[ho q hq]);simp only[h1,h2] at this;unfold St.al
 simpa using this
theorem Stp.RD (p:Stp N L n s D aC kd r t c k aK ok t2 c2) (h:TI D) (hw:WF N L n D):D.aQ.length<=aC.aQ.length∧(kd=3->r.over=0->D.aQ.length+1<=aC.aQ.length):=by
 obtain⟨_,g2,_,_⟩:=h.Eo hw p;have h2:D.aQ.length<=aK.aQ.length:=by
  rcases g2 with ⟨e,_⟩|⟨e,e1,_⟩|⟨_,_,_,e1⟩
  . rw[e];exact zr _
  . rw[e1,jb];omega
  . rw[e1,jb];omega
 cases ok with
 |some k'=>
  obtain⟨e1,_,_,_,e2⟩:=p.go k' rfl;rw[e2];exact⟨h2,fun e=>by rw[e1] at e;split at e<;>omega⟩
 |none=>
  obtain⟨e1,e2,_,e3⟩:=p.no rfl
  rcases e3 with ⟨_,_,e⟩|⟨ho,_,e⟩
  . rw[e,jb,List.length_singleton];exact⟨by omega,fun _ _=>by omega⟩
  . rw[e];exact⟨h2,fun _ h0=>by rw[e2] at h0;exact absurd h0 ho⟩
end
end Go.Proofs.YthicolbbmjfkfaaGreat.Em.Cw
