import Derived.Test.YthicolbbmjfkfaaGreatQn23
set_option linter.unusedVariables false
set_option linter.unusedSimpArgs false
set_option maxRecDepth 100000
set_option maxHeartbeats 1600000
namespace Go.Proofs.YthicolbbmjfkfaaGreat.Em.Cw
open En
/- Times,ends,bonds. -/
def HT (t:bL) (h:dJ):Prop:=match h.thn with
 |.judge _ _=>h.at_=t.aA∧t.aA≠0
 |_=>h.at_=t.aJ∧t.aA=0
def KT (P Q:Nat->Prop) (t:bL):K->Prop
 |.start h|.visit h _|.older h _=>HT t h
 |.maker h _ id=>HT t h∧id≠t.id
 |.ended h _ mb=>HT t h∧(mb=0∨P mb)
 |.gW h _ mb id=>HT t h∧(mb=0∨P mb)∧id≠t.id
 |.seen h _ mb=>HT t h∧P mb
 |.turn w now=>t.aA=0∧ai w=now∧Q w
 |.ed w now=>t.aA=0∧ai w=now∧aZ w≠0∧Q w
 |.dR|.wait _|.cZ=>t.aA≠0
 |.abort _ _=>True
 |.turns _ _=>False
 |_=>t.aA=0
def PK:K->Bool
 |.ed _ _|.turn _ _|.dR|.cZ|.abort _ _|.turns _ _=>false
 |_=>true
structure jk (P:Nat->Prop) (t0 t:bL):Prop where
 id:t.id=t0.id
 bg:t.aJ=t0.aJ
 en:t.aA=t0.aA
 lv:t.az=t0.az
 ov:t.over=t0.over
 bo:t.aP=t0.aP∨∃ b,P b∧b ∉ t0.aP∧t.aP=t0.aP++[b]
def Tl (P:Nat->Prop) (tl:List Ev) (t0 t:bL) (aT:List Ev):Prop:=(t.aP=t0.aP∧aT=tl)∨∃ b,P b∧b ∉ t0.aP∧t.aP=t0.aP++[b]∧aT=tl++[{kind:=4,t:=t0.id,n:=b}]
def TO (N L n s d:Nat) (D:St) (P Q:Nat->Prop) (t0:bL) (tl:List Ev) (r:St×K):Prop:=∃ t c,Mid N L n s d D r.1 t c∧jk P t0 t∧Tl P tl t0 t r.1.aT∧KT P Q t0 r.2
def RT (N L n s:Nat) (D:St) (P Q:Nat->Prop) (t0:bL) (tl:List Ev) (r:St×Option K):Prop:=∃ t c d,Mid N L n s d D r.1 t c∧jk P t0 t∧Tl P tl t0 t r.1.aT∧∀ k,r.2=some k->KT P Q t0 k
section
variable {N L n s q cq d:Nat} {D τ υ aH:St} {t t0:bL} {c:dN} {P Q:Nat->Prop} {tl:List Ev}
theorem jk.refl (t:bL):jk P t t:=⟨rfl,rfl,rfl,rfl,rfl,.inl rfl⟩
theorem TO.rt {r:St×K} {n':Nat} (h:TO N L n s d D P Q t0 tl r) (hn:n<=n'):RT N L n' s D P Q t0 tl (r.1,some r.2):=by
 obtain⟨t,c,m,h1,h2,h3⟩:=h;exact⟨t,c,d,m.mono hn,h1,h2,fun k e=>by obtain rfl:=zj e;exact h3⟩
theorem AA (e:t.aA=t0.aA) (h0:t0.aA≠0) (i:Nat):KT P Q t0 (dG t i):=by
 unfold dG;simp only
 split
 . unfold jJ
   split<;>exact h0
 . exact⟨e,h0⟩
theorem Cf (k:Nat):∀ (F:Nat) (τ:St) (c:dN),Mid N L n s d D τ t c->jk P t0 t->Tl P tl t0 t τ.aT->t0.aA=0->TO N L n s d D P Q t0 tl (iE s k τ F):=by
 induction k with
 |zero=>
  intro F τ c m hs hl h0;exact⟨t,c,m,hs,hl,h0⟩
 |succ k ih=>
  intro F τ c m hs hl h0;unfold iE;rw[m.ec,m.et]
  split
  . exact⟨t,c,m,hs,hl,h0⟩
  . split
    . rename_i x hx
      cases hth:x.there with
      |true=>
       simp only[if_true];exact ih (F+1) _ _ (m.tell F (τ.valueOf x.own)) hs hl h0
      |false=>
       simp only[Bool.false_eq_true,if_false];exact ih (F+1) _ c m hs hl h0
    . exact⟨t,c,m,hs,hl,hs.bg,h0⟩
theorem jk.reads {l:List (Nat×Nat×Bool)} (h:jk P t0 t):jk P t0 {t with reads:=l}:=⟨h.id,h.bg,h.en,h.lv,h.ov,h.bo⟩
theorem nD (m:Mid N L n s d D τ t c) (hs:jk P t0 t) (hl:Tl P tl t0 t τ.aT) {h:dJ} (Z:ig t c h) (hck:c.op.F<64) (hh:HT t0 h) (G:Nat):TO N L (n+1) s d D P Q t0 tl (τ.thn s h G):=by
 obtain⟨F,at_,thn⟩:=h;obtain⟨Z,h2⟩:=Z;unfold St.thn
 cases thn with
 |get=>
  simp only;have m2:=m.read F G (G !=0) Z
  split<;>exact⟨_,c,m2,hs.reads,hl,hh.2⟩
 |scan k=>
  obtain⟨rfl,hhi,hp⟩:=h2;simp only at Z ⊢;unfold St.scan;have m2:=m.read k G false Z
  by_cases h0:G=0
  . rw[aV h0]
    exact Cf _ (k+1) _ c m2 hs.reads hl hh.2
  . rw[aR h0]
    exact Cf _ (k+1) _ _ (m2.tell k ((τ.read s k G false).valueOf G)) hs.reads hl hh.2
 |change=>
  simp only;rw[m.ec]
  split
  . exact⟨_,c,m.read _ G false hck,hs.reads,hl,hh.2⟩
  split
  . exact⟨_,c,m.read _ G false hck,hs.reads,hl,hh.2⟩
  split
  . exact⟨t,c,m.mono (oW _),hs,hl,hh.2⟩
  . exact⟨t,c,m.mono (oW _),hs,hl,hh.2⟩
 |judge i l=>
  simp only
  split
  . exact⟨t,c,m.mono (oW _),hs,hl,trivial⟩
  . refine⟨t,c,m.mono (oW _),hs,hl,?_⟩
    show KT P Q t0 (dG (τ.t s) (i+1));rw[m.et];exact AA hs.en hh.2 _
theorem Ez (m:Mid N L n s d D τ t c) (hs:jk P t0 t) (hl:Tl P tl t0 t τ.aT) {h:dJ} (Z:ig t c h) (hck:c.op.F<64) (hh:HT t0 h) (G:Nat):TO N L (n+1) s d D P Q t0 tl (τ.visit s h G):=by
 unfold St.visit
 split
 . exact nD m hs hl Z hck hh 0
 . exact⟨t,c,m.mono (oW _),hs,hl,hh⟩
theorem IM (m:Mid N L n s d D τ t c) (hs:jk P t0 t) (hl:Tl P tl t0 t τ.aT) {h:dJ} (Z:ig t c h) (hck:c.op.F<64) (hh:HT t0 h) (G:Nat) {mb:Nat} (hm:mb=0∨P mb):TO N L (n+1) s d D P Q t0 tl (τ.seen s h G mb):=by
 unfold St.seen
 split
 . exact nD m hs hl Z hck hh G
 . rename_i h0
   exact⟨t,c,m.mono (oW _),hs,hl,hh,hm.resolve_left h0⟩
theorem Cg (m:Mid N L n s d D τ t c) (hs:jk P t0 t) (hl:Tl P tl t0 t τ.aT) (h0:t0.aA=0) (x:Bool) (G head:Nat):TO N L n s d D P Q t0 tl (τ.slot s x G head):=by
 unfold St.slot
 by_cases hl0:G=0
 . rw[aV hl0]
   have m2:=m.take;have e7:=(uW τ).2.2.2.2.2.2.1
   cases e:τ.take with
   |mk UT o=>
    rw[e] at m2 e7
    cases o with
    |none=>exact⟨t,c,m2,hs,by show Tl P tl t0 t UT.aT;rw[e7];exact hl,trivial⟩
    |some l=>exact⟨t,c,m2.vals _ _,hs,by show Tl P tl t0 t UT.aT;rw[e7];exact hl,h0⟩
 . rw[aR hl0]
   exact⟨t,c,m.vals _ _,hs,hl,h0⟩
theorem EC (m:Mid N L n s d D τ t c) (hs:jk P t0 t) (hl:Tl P tl t0 t τ.aT) (h0:t0.aA=0) (G head at_:Nat):TO N L n s d D P Q t0 tl (τ.jd s G head at_):=by
 unfold St.jd
 split
 . exact Cg m hs hl h0 false G head
 . exact⟨t,c,m,hs,hl,h0⟩
theorem IP (m:Mid N L n s d D τ t c) (hs:jk P t0 t) (hl:Tl P tl t0 t τ.aT) (G:Nat):TO N L (n+1) s d D P Q t0 tl (τ.lost G):=by
 unfold St.lost
 split
 . refine⟨t,c,m.give G,hs,?_,trivial⟩
   rw[(oM τ G).2.2.2.2.2.2.1];exact hl
 . exact⟨t,c,m.mono (oW _),hs,hl,trivial⟩
theorem Mid.MF (m:Mid N L n s d D τ t c) (hs:t=t0) (ht:τ.aT=tl) {tq:Nat} (hto:tq<=2000) (hp:P tq):∃ t2,Mid N L (n+1) s d D (τ.bind s tq) t2 c∧jk P t0 t2∧Tl P tl t0 t2 (τ.bind s tq).aT:=by
 subst hs;obtain⟨t2,m2,-⟩:=m.bind tq hto;refine⟨t2,m2,?_⟩;have e:(τ.bind s tq).t s=t2:=m2.et;have e2:τ.t s=t:=m.et;unfold St.bind at e ⊢;rw[e2] at e ⊢
 split at e
 . rename_i h1
   rw[aV h1];rw[<-e,e2];exact⟨jk.refl t,.inl ⟨rfl,ht⟩⟩
 . rename_i h1
   rw[aR h1];have:(τ.bK s {t with aP:=t.aP++[tq]}).t s={t with aP:=t.aP++[tq]}:=by
    unfold St.t St.bK;simp only;rw[aS _ _ _ _ (by rw[m.sh.t8];exact m.s8),aV rfl];rfl
   rw[<-e,show ((τ.bK s {t with aP:=t.aP++[tq]}).event _).t s=(τ.bK s {t with aP:=t.aP++[tq]}).t s from rfl,this];exact⟨⟨rfl,rfl,rfl,rfl,rfl,.inr ⟨tq,hp,h1,rfl⟩⟩,.inr ⟨tq,hp,h1,rfl,by show τ.aT++[_]=_;rw[ht]⟩⟩
theorem ED {o:En.Op} (h:p9 o=true):o.F<64:=by
 unfold p9 at h
 split at h<;>first|(cases h;done)|(simp only[il,zd,beq_iff_eq] at h;omega)
set_option maxHeartbeats 3200000 in
theorem R3 (m:Mid N L n s 0 D D t c) {k:K} (Z:xU N L t c k) (hA:PK k=true) (hT:KT P Q t k)
 (hB:∀ id,id<=2000->id≠t.id->bz (D.word (D.place id))=2->gX (D.word (D.place id))≠0->∀ h:dJ,HT t h->gX (D.word (D.place id))<=h.at_->P id) (hQ:Q (D.word 0)):RT N L (n+2) s D P Q t D.aT (D.run s k):=by
 have mt:=m.tick;have et:=m.et;have ec:=m.ec;have r0:jk P t t:=jk.refl t;have gD:Tl P D.aT t t D.tick.aT:=.inl ⟨rfl,rfl⟩;have hck:=ED m.op
 cases k with
 |fin r=>
  exact⟨t,_,0,(m.mono (by omega)).aK {D.c s with r:=r,over:=true} ⟨by rw[ec],by rw[ec]⟩,r0,.inl ⟨rfl,rfl⟩,fun k e=>by cases e⟩
 |start h=>exact (Ez mt r0 gD Z hck hT _).rt (by omega)
 |visit h G=>
  refine TO.rt (r:=(_,_)) (n:=n) ⟨t,c,mt,r0,gD,?_⟩ (by omega);show KT P Q t (D.kG s h G _);unfold St.kG;rw[et]
  split
  . exact⟨hT,.inl rfl⟩
  split
  . exact hT
  . rename_i h2
    exact⟨hT,fun e=>h2 (.inr e)⟩
 |older h G=>exact (Ez mt r0 gD Z.1 hck hT _).rt (by omega)
 |maker h G id=>
  obtain⟨hT1,Kt⟩:=hT;simp only[St.run]
  split
  . exact TO.rt (r:=(_,_)) (n:=n) ⟨t,c,mt,r0,gD,hT1⟩ (by omega)
  split
  . rename_i h1 h2
    refine TO.rt (r:=(_,_)) (n:=n) ⟨t,c,mt,r0,gD,hT1,.inr (hB id Z.2.2 Kt h2 (fun e=>h1 (.inl e)) h hT1 ?_)⟩ (by omega);exact Nat.le_of_not_lt fun e=>h1 (.inr (.inl e))
  . exact TO.rt (r:=(_,_)) (n:=n) ⟨t,c,mt,r0,gD,hT1,.inl rfl⟩ (by omega)
 |ended h G mb=>
  obtain⟨hT1,Kt⟩:=hT;simp only[St.run]
  split
  . exact TO.rt (r:=(_,_)) (n:=n) ⟨t,c,mt,r0,gD,hT1⟩ (by omega)
  split
  . exact (IM mt r0 gD Z.1 hck hT1 G Kt).rt (by omega)
  . rename_i h2
    refine TO.rt (r:=(_,_)) (n:=n) ⟨t,c,mt,r0,gD,hT1,Kt,fun e=>h2 (.inr ?_)⟩ (by omega);rw[mt.et];exact e
 |gW h G mb id=>
  obtain⟨hT1,Kt,ZW⟩:=hT;simp only[St.run]
  split
  . exact (IM mt r0 gD Z.1 hck hT1 G Kt).rt (by omega)
  split
  . rename_i h1 h2
    have hP:=hB id Z.2.2.2 ZW h2 (fun e=>h1 (.inl e)) h hT1 (Nat.le_of_not_lt fun e=>h1 (.inr (.inl e)));obtain⟨t2,m2,f1,f2⟩:=mt.MF (tl:=D.aT) rfl rfl Z.2.2.2 hP;exact TO.rt (r:=(_,_)) ⟨t2,c,m2,f1,f2,hT1⟩ (by omega)
  . exact TO.rt (r:=(_,_)) (n:=n) ⟨t,c,mt,r0,gD,hT1⟩ (by omega)
 |seen h G mb=>
  obtain⟨hT1,Kt⟩:=hT;simp only[St.run]
  split
  . exact TO.rt (r:=(_,_)) (n:=n) ⟨t,c,mt,r0,gD,hT1⟩ (by omega)
  . split
    . rename_i h1 h2
      obtain⟨t2,m2,f1,f2⟩:=mt.MF (tl:=D.aT) rfl rfl Z.2.2 Kt;obtain⟨t3,m3,e1,e2,-⟩:=mt.bind mb Z.2.2;have e3:t3=t2:=m3.et.symm.trans m2.et;subst e3;exact (nD m2 f1 f2 (oN Z.1 e1 e2) hck hT1 G).rt (by omega)
    . exact (nD mt r0 gD Z.1 hck hT1 G).rt (by omega)
 |again en=>
  obtain⟨h1,h2,x,hx,hxo⟩:=Z;have ex:D.x s c.op.F=x:=by unfold St.x;rw[et,hx];rfl
  simp only[St.run,ec,ex];have m1:=m.put (iT (w:=1) hxo (by omega) h1 h2);have m2:=m1.bK (qW m1.t1 c.op.F {x with there:=(c.op.kind !=4)} (m.t1.cell hx).1 (m.t1.cell hx).2.1 (fun _=>hxo));have e3:((D.put (af x.own 1) en).c s).op.kind=c.op.kind:=by rw[m1.ec]
  have e4:((D.put (af x.own 1) en).gu s c.op.F {x with there:=(c.op.kind !=4)})=((D.put (af x.own 1) en).bK s {t with cells:=upd t.cells c.op.F {x with there:=(c.op.kind !=4)}}):=by unfold St.gu;rw[m1.et]
  rw[e3,e4]
  split
  . exact TO.rt (r:=(_,_)) ⟨_,c,m2.vals _ _,⟨rfl,rfl,rfl,rfl,rfl,.inl rfl⟩,.inl ⟨rfl,rfl⟩,hT⟩ (by omega)
  . exact TO.rt (r:=(_,_)) ⟨_,c,m2,⟨rfl,rfl,rfl,rfl,rfl,.inl rfl⟩,.inl ⟨rfl,rfl⟩,hT⟩ (by omega)
 |own G=>
  simp only[St.run]
  split
  . exact TO.rt (r:=(_,_)) ⟨t,c,mt,r0,gD,hT⟩ (by omega)
  split
  . exact TO.rt (r:=(_,_)) ⟨t,c,mt,r0,gD,hT⟩ (by omega)
  . exact TO.rt (r:=(_,_)) ⟨t,c,mt,r0,gD,trivial⟩ (by omega)
 |ib G w id=>
  simp only[St.run]
  split
  . exact TO.rt (r:=(_,_)) ⟨t,c,mt,r0,gD,trivial⟩ (by omega)
  . exact TO.rt (r:=(_,_)) ⟨t,c,mt,r0,gD,hT⟩ (by omega)
 |claim G w=>
  obtain⟨hl,hx,hkk⟩:=Z;have m1:=m.cB (o:=w) (iT (L:=L) (w:=1) hl (by omega) (nY m.t1) (nX m.t1));have PL:Tl P D.aT t t (D.cB (af G 1) w (mine t)).aT:=by unfold St.cB;split<;>exact .inl ⟨rfl,rfl⟩
  simp only[St.run,et]
  split
  . exact TO.rt (r:=(_,_)) ⟨t,c,m1,r0,PL,hT⟩ (by omega)
  . have m2:=(m1.mono (oW n)).bK (qV m1.t1 c.op.F ⟨0,G,false⟩ (.inl rfl) (.inr hl) (by simp))
    have e1:(D.cB (af G 1) w (mine t)).bS s ((D.cB (af G 1) w (mine t)).c s).op.F ⟨0,G,false⟩=(D.cB (af G 1) w (mine t)).bK s {t with cells:=(c.op.F,⟨0,G,false⟩)::t.cells,keys:=t.keys++[c.op.F]}:=by
     unfold St.bS;rw[m1.et,m1.ec]
    rw[e1,m2.ec];have r1:jk P t {t with cells:=(c.op.F,⟨0,G,false⟩)::t.cells,keys:=t.keys++[c.op.F]}:=⟨rfl,rfl,rfl,rfl,rfl,.inl rfl⟩
    split
    . exact TO.rt (r:=(_,_)) ⟨_,c,m2,r1,PL,hT⟩ (by omega)
    . exact (Cg m2 r1 PL hT true 0 0).rt (by omega)
 |fresh G=>
  simp only[St.run,ec];exact (EC mt r0 gD hT G _ _).rt (by omega)
 |next G head at_=>exact (EC mt r0 gD hT G head _).rt (by omega)
 |free G head at_=>
  simp only[St.run]
  split
  . exact TO.rt (r:=(_,_)) ⟨t,c,mt,r0,gD,hT⟩ (by omega)
  split
  . exact (IP mt r0 gD G).rt (by omega)
  . exact TO.rt (r:=(_,_)) ⟨t,c,mt,r0,gD,hT⟩ (by omega)
 |dM G head at_ id=>
  simp only[St.run]
  split
  . exact TO.rt (r:=(_,_)) ⟨t,c,mt,r0,gD,hT⟩ (by omega)
  . exact (IP mt r0 gD G).rt (by omega)
 |fB x G head=>
  obtain⟨hl,hkk,hx⟩:=Z;simp only[St.run,et];exact TO.rt (r:=(_,_)) ⟨t,c,m.put (iT hl (by omega) (nY m.t1) (nX m.t1)),r0,.inl ⟨rfl,rfl⟩,hT⟩ (by omega)
 |dZ x G head=>
  obtain⟨hl,hkk,hx⟩:=Z;simp only[St.run];refine TO.rt (r:=(_,_)) ⟨t,c,m.put (iT hl (by omega) (by decide) uh),r0,.inl ⟨rfl,rfl⟩,?_⟩ (by omega)
  cases x<;>exact hT
 |push G head=>
  obtain⟨hl,hh,hx,hkk⟩:=Z;exact TO.rt (r:=(_,_)) ⟨t,c,m.put (pM hl hh),r0,.inl ⟨rfl,rfl⟩,hT⟩ (by omega)
 |dL G head=>
  obtain⟨hl,hh,hx,hkk⟩:=Z;have m1:=m.cB (o:=head) (pO (L:=L) hkk (.inr hl));have PL:Tl P D.aT t t (D.cB (9+c.op.F) head G).aT:=by unfold St.cB;split<;>exact .inl ⟨rfl,rfl⟩
  simp only[St.run,ec]
  split
  . exact TO.rt (r:=(_,_)) ⟨t,c,m1,r0,PL,hT⟩ (by omega)
  . have m2:=(m1.mono (oW n)).bK (qV m1.t1 c.op.F ⟨G,0,true⟩ (.inr hl) (.inl rfl) (fun _=>hl))
    have e1:(D.cB (9+c.op.F) head G).bS s c.op.F ⟨G,0,true⟩=(D.cB (9+c.op.F) head G).bK s {t with cells:=(c.op.F,⟨G,0,true⟩)::t.cells,keys:=t.keys++[c.op.F]}:=by
     unfold St.bS;rw[m1.et]
    rw[e1];exact TO.rt (r:=(_,_)) ⟨_,c,m2,⟨rfl,rfl,rfl,rfl,rfl,.inl rfl⟩,PL,hT⟩ (by omega)
 |over G=>
  simp only[St.run,ec];exact TO.rt (r:=(_,_)) ⟨t,c,mt,r0,gD,hT⟩ (by omega)
 |iq G head=>
  obtain⟨hl,hh,hx,hkk⟩:=Z;exact TO.rt (r:=(_,_)) ⟨t,c,m.put (pM hl hh),r0,.inl ⟨rfl,rfl⟩,hT⟩ (by omega)
 |dQ G head=>
  obtain⟨hl,hh,hx,hkk⟩:=Z;have m1:=m.cB (o:=head) (pO (L:=L) hkk (.inr hl));have PL:Tl P D.aT t t (D.cB (9+c.op.F) head G).aT:=by unfold St.cB;split<;>exact .inl ⟨rfl,rfl⟩
  obtain⟨x,hx⟩:=uz.1 hx;simp only[St.run,ec]
  split
  . exact TO.rt (r:=(_,_)) ⟨t,c,m1,r0,PL,hT⟩ (by omega)
  . have ex:(D.cB (9+c.op.F) head G).x s c.op.F=x:=by unfold St.x;rw[m1.et,hx];rfl
    rw[ex];have m2:=m1.bK (qW m1.t1 c.op.F {x with own:=G,there:=true} (.inr hl) (m.t1.cell hx).2.1 (fun _=>hl));have e4:(D.cB (9+c.op.F) head G).gu s c.op.F {x with own:=G,there:=true}=(D.cB (9+c.op.F) head G).bK s {t with cells:=upd t.cells c.op.F {x with own:=G,there:=true}}:=by unfold St.gu;rw[m1.et]
    rw[e4];exact TO.rt (r:=(_,_)) ⟨_,c,m2,⟨rfl,rfl,rfl,rfl,rfl,.inl rfl⟩,PL,hT⟩ (by omega)
 |draw=>
  simp only[St.run]
  split
  . exact TO.rt (r:=(_,_)) ⟨t,c,mt,r0,gD,trivial⟩ (by omega)
  split
  . exact TO.rt (r:=(_,_)) ⟨t,c,mt,r0,gD,hT,rfl,hQ⟩ (by omega)
  . rename_i h2
    exact TO.rt (r:=(_,_)) ⟨t,c,mt,r0,gD,hT,rfl,h2,hQ⟩ (by omega)
 |wait i=>
  simp only[St.run]
  split
  . refine TO.rt (r:=(_,_)) ⟨t,c,mt,r0,gD,?_⟩ (by omega)
    show KT P Q t (jJ (D.tick.t s) (i+1));unfold jJ
    split<;>exact hT
  split
  . exact TO.rt (r:=(_,_)) ⟨t,c,mt,r0,gD,trivial⟩ (by omega)
  . exact TO.rt (r:=(_,_)) ⟨t,_,mt.aK _ ⟨by rw[mt.ec],by rw[mt.ec]⟩,r0,gD,hT⟩ (by omega)
 |ed w now=>cases hA
 |turn w now=>cases hA
 |dR=>cases hA
 |cZ=>cases hA
 |abort e r=>cases hA
 |turns l r=>cases hA
end
def iO (D:St) (b:Nat):Prop:=bz (D.word (D.place b))=3∨bz (D.word (D.place b))=4
def lim (t:bL):Nat:=if t.aA=0 then t.aJ else t.aA
def rJ (D:St) (t:bL) (b:Nat):Prop:=1<=b∧b<=D.aB∧b≠t.id∧(iO D b∨∃ s' t',D.aj.getD s' none=some t'∧t'.id=b∧t'.aA≠0∧t'.aA<=lim t)
def mH (D:St) (w:Nat):Prop:=aZ w<=D.aB∧ai w<=ai (D.word 0)∧∀ s t,D.aj.getD s none=some t->t.id=aZ w->t.aA=ai w∧t.aA≠0
def PW (w:Nat) (t:bL) (k:Option K):Prop:=(∃ l r,k=some (.turns l r)∧(r.over=3∨r.over=4)∧w=pack r.over t.aA)∨((∀ l r,k≠some (.turns l r))∧((w=pack 1 0∧(t.aA=0∨k=some .dR))∨(w=pack 2 t.aA∧t.aA≠0)))
def _root_.Go.Proofs.YthicolbbmjfkfaaGreat.En.St.gQ (D:St) (s:Nat):Option K:=(D.calls.getD s none).bind (·.k)
structure TI (D:St):Prop where
 uq:∀ s s' t t',D.aj.getD s none=some t->D.aj.getD s' none=some t'->t.id=t'.id->s=s'
 ip:∀ s t,D.aj.getD s none=some t->1<=t.id∧t.id<=D.aB
 bg:∀ s t,D.aj.getD s none=some t->1<=t.aJ∧t.aJ<=ai (D.word 0)∧t.aA<=ai (D.word 0)∧(t.aA≠0->t.aJ<t.aA)
 ne:∀ s s' t t',D.aj.getD s none=some t->D.aj.getD s' none=some t'->s≠s'->t.aA≠0->t.aA≠t'.aA
 wd:∀ s t,D.aj.getD s none=some t->PW (D.word (D.place t.id)) t (D.gQ s)
 dd:∀ id,1<=id->id<=D.aB->(∀ s t,D.aj.getD s none=some t->t.id≠id)->iO D id
 ub:∀ id,id=0∨D.aB<id->id<=2000->D.word (D.place id)=0
 ck:mH D (D.word 0)
 kk:∀ s t k,D.aj.getD s none=some t->D.gQ s=some k->(∃ l r,k=.turns l r)∨KT (rJ D t) (mH D) t k
 UZ:∀ s t,D.aj.getD s none=some t->D.gQ s=none->t.aA=0
 bo:∀ s t,D.aj.getD s none=some t->t.aP.Nodup∧∀ b∈t.aP,rJ D t b
section
variable {N L n s q cq d:Nat} {D τ υ aH:St} {t t0 t2 u u2:bL} {c:dN} {P P' Q Q':Nat->Prop} {tl:List Ev}
theorem KT.mono (hP:∀ b,P b->P' b) (hq:∀ w,Q w->Q' w) (e1:t2.aJ=t.aJ) (e2:t2.aA=t.aA) (e3:t2.id=t.id) {k:K} (Z:KT P Q t k):KT P' Q' t2 k:=by
 have hh:∀ {h:dJ},HT t h->HT t2 h:=by
  intro h hx;unfold HT at hx ⊢
  split at hx<;>(rw[e2];first|exact hx|(rw[e1];exact hx))
 cases k with
 |start h=>exact hh Z
 |visit h l=>exact hh Z
 |older h l=>exact hh Z
 |maker h l id=>exact⟨hh Z.1,by rw[e3];exact Z.2⟩
 |ended h l mb=>exact⟨hh Z.1,Z.2.imp (fun x=>x) (hP mb)⟩
 |gW h l mb id=>exact⟨hh Z.1,Z.2.1.imp (fun x=>x) (hP mb),by rw[e3];exact Z.2.2⟩
 |seen h l mb=>exact⟨hh Z.1,hP mb Z.2⟩
 |turn w now=>exact⟨e2.trans Z.1,Z.2.1,hq w Z.2.2⟩
 |ed w now=>exact⟨e2.trans Z.1,Z.2.1,Z.2.2.1,hq w Z.2.2.2⟩
 |dR=>show t2.aA≠0;rw[e2];exact Z
 |wait i=>show t2.aA≠0;rw[e2];exact Z
 |cZ=>show t2.aA≠0;rw[e2];exact Z
 |abort e r=>trivial
 |turns l r=>exact Z
 |_=>exact e2.trans Z
structure Rel (D τ:St) (s:Nat) (t t2:bL):Prop where
 aB:τ.aB=D.aB
 aF:τ.aF=D.aF
 ox:∀ q,q≠s->τ.aj.getD q none=D.aj.getD q none
 oc:∀ q,q≠s->τ.calls.getD q none=D.calls.getD q none
 tx:D.aj.getD s none=some t
 id:t2.id=t.id
 bg:t2.aJ=t.aJ
 en:t.aA≠0->t2.aA=t.aA
 now:ai (D.word 0)<=ai (τ.word 0)
 st:∀ b,iO D b->iO τ b
 al:τ.aj.getD s none=some t2∨(τ.aj.getD s none=none∧iO τ t.id)
theorem Rel.place (be:Rel D τ s t t2) (id:Nat):τ.place id=D.place id:=by unfold St.place;rw[be.aF]
theorem Rel.alive (be:Rel D τ s t t2) {q:Nat} (h:τ.aj.getD q none=some u):(q≠s∧D.aj.getD q none=some u)∨(q=s∧u=t2):=by
 by_cases e:q=s
 . subst e
   rcases be.al with h2|h2
   . rw[h] at h2;exact .inr ⟨rfl,zj h2⟩
   . rw[h] at h2;cases h2.1
 . rw[be.ox q e] at h;exact .inl ⟨e,h⟩
theorem Rel.bnd (be:Rel D τ s t t2) {b:Nat} (h:rJ D u b) (hl:lim u<=lim u2) (hi:u2.id=u.id):rJ τ u2 b:=by
 obtain⟨h1,h2,h3,h4⟩:=h;refine⟨h1,by rw[be.aB];exact h2,by rw[hi];exact h3,?_⟩
 rcases h4 with h4|⟨s',t',g1,g2,g3,g4⟩
 . exact .inl (be.st b h4)
 . by_cases e:s'=s
   . subst e
     rw[be.tx] at g1;obtain rfl:=zj g1
     rcases be.al with h5|h5
     . exact .inr ⟨s',t2,h5,be.id.trans g2,by rw[be.en g3];exact g3,by rw[be.en g3];omega⟩
     . exact .inl (by rw[<-g2];exact h5.2)
   . exact .inr ⟨s',t',by rw[be.ox s' e];exact g1,g2,g3,by omega⟩
theorem Rel.ck (be:Rel D τ s t t2) {w:Nat} (h:mH D w):mH τ w:=by
 obtain⟨h1,h2,h3⟩:=h;refine⟨by rw[be.aB];exact h1,gy h2 be.now,fun q u hu hi=>?_⟩
 rcases be.alive hu with ⟨_,hq⟩|⟨rfl,rfl⟩
 . exact h3 q u hq hi
 . obtain⟨g1,g2⟩:=h3 q t be.tx (be.id.symm.trans hi)
   rw[be.en g2];exact⟨g1,g2⟩
theorem TI.next (h:TI D) (be:Rel D τ s t t2)
 (hbg:t2.aA<=ai (τ.word 0)∧(t2.aA≠0->t2.aJ<t2.aA))
 (hne:t2.aA=t.aA∨ai (D.word 0)<t2.aA)
 (hwo:∀ q u,q≠s->D.aj.getD q none=some u->PW (D.word (D.place u.id)) u (D.gQ q)->PW (τ.word (D.place u.id)) u (D.gQ q))
 (hws:τ.aj.getD s none=some t2->PW (τ.word (D.place t.id)) t2 (τ.gQ s))
 (hub:∀ id,id=0∨D.aB<id->id<=2000->τ.word (D.place id)=0)
 (hck:mH τ (τ.word 0))
 (hkk:∀ k,τ.aj.getD s none=some t2->τ.gQ s=some k->(∃ l r,k=.turns l r)∨KT (rJ τ t2) (mH τ) t2 k)
 (hid:τ.aj.getD s none=some t2->τ.gQ s=none->t2.aA=0)
 (Qu:t2.aP.Nodup∧∀ b∈t2.aP,rJ τ t2 b):TI τ:=by
 have hko:∀ q,q≠s->τ.gQ q=D.gQ q:=fun q hq=>by unfold St.gQ;rw[be.oc q hq]
 have hT:=h.bg s t be.tx;refine⟨fun q q' u u' hu hu' hi=>?_,fun q u hu=>?_,fun q u hu=>?_,fun q q' u u' hu hu' hq he=>?_,fun q u hu=>?_,fun id h1 h2 h3=>?_,fun id h1 h2=>?_,hck,fun q u k hu Z=>?_,fun q u hu Z=>?_,fun q u hu=>?_⟩
 . rcases be.alive hu with ⟨e,g⟩|⟨rfl,rfl⟩<;>rcases be.alive hu' with ⟨e',g'⟩|⟨rfl,rfl⟩
   . exact h.uq q q' u u' g g' hi
   . exact absurd (h.uq q q' u t g be.tx (hi.trans be.id)) e
   . exact absurd (h.uq q q' t u' be.tx g' (be.id.symm.trans hi)).symm e'
   . rfl
 . rw[be.aB]
   rcases be.alive hu with ⟨e,g⟩|⟨rfl,rfl⟩
   . exact h.ip q u g
   . rw[be.id];exact h.ip q t be.tx
 . rcases be.alive hu with ⟨e,g⟩|⟨rfl,rfl⟩
   . have h1:=h.bg q u g
     have:=be.now;exact⟨h1.1,by omega,by omega,h1.2.2.2⟩
   . have:=be.now
     rw[be.bg] at hbg ⊢;exact⟨hT.1,by omega,hbg⟩
 . rcases be.alive hu with ⟨e,g⟩|⟨rfl,rfl⟩<;>rcases be.alive hu' with ⟨e',g'⟩|⟨rfl,rfl⟩
   . exact h.ne q q' u u' g g' hq he
   . have:=h.bg q u g
     rcases hne with hne|hne
     . rw[hne];exact h.ne q q' u t g be.tx hq he
     . omega
   . have:=h.bg q' u' g'
     rcases hne with hne|hne
     . rw[hne] at he ⊢;exact h.ne q q' t u' be.tx g' hq he
     . omega
   . exact absurd rfl hq
 . rw[be.place]
   rcases be.alive hu with ⟨e,g⟩|⟨rfl,rfl⟩
   . rw[hko q e];exact hwo q u e g (h.wd q u g)
   . rw[be.id];exact hws hu
 . rw[be.aB] at h2
   by_cases e:id=t.id
   . rcases be.al with h5|h5
     . exact absurd (be.id.trans e.symm) (h3 s t2 h5)
     . rw[e];exact h5.2
   . refine be.st id (h.dd id h1 h2 (fun q u hu hi=>?_))
     by_cases eq:q=s
     . subst eq
       rw[be.tx] at hu;obtain rfl:=zj hu;exact e hi.symm
     . exact h3 q u (by rw[be.ox q eq];exact hu) hi
 . rw[be.aB] at h1
   rw[be.place];exact hub id h1 h2
 . rcases be.alive hu with ⟨e,g⟩|⟨rfl,rfl⟩
   . rw[hko q e] at Z
     exact (h.kk q u k g Z).imp (fun x=>x) (fun x=>x.mono (fun b hb=>be.bnd hb (zr _) rfl) (fun w hw=>be.ck hw) rfl rfl rfl)
   . exact hkk k hu Z
 . rcases be.alive hu with ⟨e,g⟩|⟨rfl,rfl⟩
   . rw[hko q e] at Z;exact h.UZ q u g Z
   . exact hid hu Z
 . rcases be.alive hu with ⟨e,g⟩|⟨rfl,rfl⟩
   . exact⟨(h.bo q u g).1,fun b hb=>be.bnd ((h.bo q u g).2 b hb) (zr _) rfl⟩
   . exact Qu
theorem eU {x e:Nat} (h:x<8):bz (pack x e)=x:=by unfold bz pack;omega
theorem MG {x e:Nat} (h:x<8):gX (pack x e)=e:=by unfold gX pack;omega
theorem TI.Xl (h:TI D) {id:Nat} (hid:id<=2000) (h2:bz (D.word (D.place id))=2):∃ s t,D.aj.getD s none=some t∧t.id=id∧t.aA≠0∧t.aA=gX (D.word (D.place id)):=by
 by_cases h0:id=0∨D.aB<id
 . rw[h.ub id h0 hid] at h2;cases h2
 . refine Classical.byContradiction fun hn=>?_
   have h3:∀ s t,D.aj.getD s none=some t->t.id≠id:=by
    intro s t ht hi;subst hi
    rcases h.wd s t ht with ⟨l,r,_,h4,h5⟩|⟨_,h4|h4⟩
    . rw[h5,eU (by omega)] at h2;omega
    . rw[h4.1,eU (by omega)] at h2;omega
    . exact hn ⟨s,t,ht,rfl,h4.2,by rw[h4.1,MG (by omega)]⟩
   rcases h.dd id (by omega) (by omega) h3 with h4|h4<;>omega
theorem HT.lim {h:dJ} (hh:HT t h):h.at_=lim t:=by
 unfold HT at hh;unfold Cw.lim
 split at hh
 . rw[aR hh.2];exact hh.1
 . rw[aV hh.2];exact hh.1
theorem TI.hB (h:TI D):∀ id,id<=2000->id≠t.id->bz (D.word (D.place id))=2->gX (D.word (D.place id))≠0->∀ h:dJ,HT t h->gX (D.word (D.place id))<=h.at_->rJ D t id:=by
 intro id hid hne h2 h0 hu hh hl;obtain⟨s,t',g1,g2,g3,g4⟩:=h.Xl hid h2;have:=h.ip s t' g1;refine⟨by omega,by omega,hne,.inr ⟨s,t',g1,g2,g3,?_⟩⟩;rw[g4,<-hh.lim];exact hl
end
section
variable {N L n s q cq d kd:Nat} {D τ υ aH aD:St} {t t0 t2 u u2:bL} {c c2:dN} {r:oZ} {k:K} {ok:Option K}
theorem Stp.w (p:Stp N L n s D aH kd r t c k aD ok t2 c2) (i:Nat):aH.word i=aD.word i:=by
 obtain⟨l,cs,ts,tl,e⟩:=p.e1;rw[e];rfl
theorem Stp.runs (p:Stp N L n s D aH kd r t c k aD ok t2 c2):aD.words=setW (D.aK s {c with waits:=false}) (wr (D.aK s {c with waits:=false}) s k)∧aD.aF=D.aF:=by
 have:=vk (D.aK s {c with waits:=false}) s k;rw[p.run] at this;exact this
theorem Stp.aF (p:Stp N L n s D aH kd r t c k aD ok t2 c2):aH.aF=D.aF:=by
 obtain⟨l,cs,ts,tl,e⟩:=p.e1;rw[e];exact p.runs.2
theorem Stp.aB (p:Stp N L n s D aH kd r t c k aD ok t2 c2):aH.aB=D.aB:=by
 obtain⟨l,cs,ts,tl,e⟩:=p.e1;obtain⟨d,m2⟩:=p.m2;rw[e];exact m2.md
theorem Stp.zq (p:Stp N L n s D aH kd r t c k aD ok t2 c2):D.gQ s=some k:=by unfold St.gQ;rw[p.ca];exact p.ck
theorem Stp.kR (p:Stp N L n s D aH kd r t c k aD ok t2 c2) {k':K} (e:ok=some k'):aH.gQ s=some k':=by unfold St.gQ;rw[(p.go k' e).2.2.1];rfl
theorem Stp.JX (p:Stp N L n s D aH kd r t c k aD ok t2 c2) (e:ok=none):aH.gQ s=none:=by unfold St.gQ;rw[(p.no e).2.2.1];rfl
theorem Stp.tt (p:Stp N L n s D aH kd r t c k aD ok t2 c2) {x:bL} (e:aD.aj.getD s none=some x):t2=x:=by
 obtain⟨d,m2⟩:=p.m2;rw[m2.tx] at e;exact zj e
theorem Stp.su (p:Stp N L n s D aH kd r t c k aD ok t2 c2) (h:wr (D.aK s {c with waits:=false}) s k=none) (i:Nat):aH.word i=D.word i:=by
 rw[p.w];have e:=p.runs.1;rw[h] at e;exact qZ e i
theorem Stp.jI (p:Stp N L n s D aH kd r t c k aD ok t2 c2) {j v:Nat} (h:wr (D.aK s {c with waits:=false}) s k=some (j,v)) (i:Nat):(i≠j->aH.word i=D.word i)∧(j<D.words.length->aH.word j=v):=by
 have e:=p.runs.1;rw[h] at e;refine⟨fun hi=>?_,fun hj=>?_⟩
 . rw[p.w];exact iN e i hi
 . rw[p.w];exact BZ e hj
theorem R4 (Z:xU N L t c k) (hA:PK k=true) (et:D.t s=t) (ec:D.c s=c) {i v:Nat} (h:wr D s k=some (i,v)) (hck:c.op.F<64):9<=i∧i<73+N*3:=by
 have hin:∀ {l w},LK N l->w<3->9<=af l w∧af l w<73+N*3:=fun {l w} hl hw=>by have:=hl.ag;unfold af;omega
 cases k with
 |again e=>
  obtain⟨h1,h2,x,hx,hxo⟩:=Z;have ex:D.x s c.op.F=x:=by unfold St.x;rw[et,hx];rfl
  simp only[wr,ec,ex] at h;obtain⟨rfl,-⟩:=iQ _ _ _ _ ▸ zj h;exact hin hxo (by omega)
 |claim l w=>
  simp only[wr] at h
  split at h
  . obtain⟨rfl,-⟩:=iQ _ _ _ _ ▸ zj h
    exact hin Z.1 (by omega)
  . cases h
 |fB x l h'=>
  obtain⟨rfl,-⟩:=iQ _ _ _ _ ▸ zj h;exact hin Z.1 (by omega)
 |dZ x l h'=>
  obtain⟨rfl,-⟩:=iQ _ _ _ _ ▸ zj h;exact hin Z.1 (by omega)
 |push l h'=>
  obtain⟨rfl,-⟩:=iQ _ _ _ _ ▸ zj h;exact hin Z.1 (by omega)
 |iq l h'=>
  obtain⟨rfl,-⟩:=iQ _ _ _ _ ▸ zj h;exact hin Z.1 (by omega)
 |dL l h'=>
  simp only[wr,ec] at h
  split at h
  . obtain⟨rfl,-⟩:=iQ _ _ _ _ ▸ zj h
    omega
  . cases h
 |dQ l h'=>
  simp only[wr,ec] at h
  split at h
  . obtain⟨rfl,-⟩:=iQ _ _ _ _ ▸ zj h
    omega
  . cases h
 |ed w now=>cases hA
 |turn w now=>cases hA
 |dR=>cases hA
 |cZ=>cases hA
 |abort e r=>cases hA
 |turns l r=>cases hA
 |_=>cases h
theorem yC (hA:PK k=true) (h:(D.run s k).2=none):∃ r,k=.fin r:=by
 cases k with
 |fin r=>exact⟨r,rfl⟩
 |ed w now=>cases hA
 |turn w now=>cases hA
 |dR=>cases hA
 |cZ=>cases hA
 |abort e r=>cases hA
 |turns l r=>cases hA
 |start h'=>cases h
 |visit h' l=>cases h
 |older h' l=>cases h
 |fresh l=>cases h
 |next l a b=>cases h
 |push l a=>cases h
 |over l=>cases h
 |iq l a=>cases h
 |fB x l a=>cases h
 |dZ x l a=>cases h
 |again e=>cases h
 |_=>simp only[St.run] at h;repeat (split at h<;>first|(cases h;done)|skip)
theorem TI.MH (h:TI D) (hw:WF N L n D) (p:Stp N L n s D aH kd r t c k aD ok t2 c2) (hA:PK k=true):TI aH∧jk (rJ D t) t t2∧Tl (rJ D t) D.aT t t2 aD.aT∧aH.aj.getD s none=some t2:=by
 have hk0:=p.zq;have yS:KT (rJ D t) (mH D) t k:=by
  rcases h.kk s t k p.tx hk0 with ⟨l,r,rfl⟩|hx
  . cases hA
  . exact hx
 have hnt:∀ l r,k≠.turns l r:=by rintro l r rfl;cases hA
 have hrt:=R3 (P:=rJ D t) (Q:=mH D) p.m p.Cv hA yS h.hB h.ck;rw[p.run] at hrt;obtain⟨t',c',d',m',hs,hl,hn⟩:=hrt;have e:=p.tt m'.tx;subst e;have hck:c.op.F<64:=ED p.m.op;have hwd:∀ i,(i<9∨73+N*3<=i)->aH.word i=D.word i:=by
  intro i hi
  cases e:wr (D.aK s {c with waits:=false}) s k with
  |none=>exact p.su e i
  |some jv=>
   obtain⟨j,v⟩:=jv;have:=R4 p.Cv hA p.m.et p.m.ec e hck;exact (p.jI e i).1 (by omega)
 have hpl:∀ id,aH.word (D.place id)=D.word (D.place id):=fun id=>hwd _ (by rw[hw.sh.place];omega)
 have h0:=hwd 0 (by omega);have hal:aH.aj.getD s none=some t2:=by
  cases ok with
  |some k'=>exact (p.go k' rfl).2.2.2.1
  |none=>
   obtain⟨r',hr'⟩:=yC hA (by rw[p.run]);subst hr'
   rcases (p.no rfl).2.2.2 with ⟨_,g,_⟩|⟨g,_⟩
   . exact g
   . exfalso
     obtain⟨d,m2⟩:=p.m2;have e1:=p.run;simp only[St.run] at e1;obtain⟨e1,-⟩:=iQ _ _ _ _ ▸ e1;have e2:(aD.c s).r.over=0:=by
      rw[<-e1];unfold St.finish St.c St.aK;simp only;rw[aS _ _ _ _ (by show s<(D.calls.set s _).length;rw[rz,hw.sh.c8];exact p.m.s8),aV rfl];exact p.Cv.1
     rw[m2.ec] at e2;exact g e2
 have hpl':∀ id,aH.place id=D.place id:=fun id=>by unfold St.place;rw[p.aF]
 have be:Rel D aH s t t2:=⟨p.aB,p.aF,p.ox,p.oc,p.tx,hs.id,hs.bg,fun _=>hs.en,by rw[h0];exact zr _,fun b hb=>by unfold iO at hb ⊢;rw[hpl',hpl];exact hb,.inl hal⟩
 have hlim:lim t2=lim t:=by unfold lim;rw[hs.en,hs.bg]
 have hbg:=h.bg s t p.tx;refine⟨h.next be ⟨by rw[hs.en,h0];exact hbg.2.2.1,by rw[hs.en,hs.bg];exact hbg.2.2.2⟩ (.inl hs.en) (fun q u _ _ hp=>by rw[hpl];exact hp) (fun _=>?_) (fun id h1 h2=>by rw[hpl];exact h.ub id h1 h2) (by rw[h0];exact be.ck h.ck) (fun k' _ hk'=>?_) (fun _ hk'=>?_) ?_,hs,hl,hal⟩
 . rw[hpl]
   have hp:=h.wd s t p.tx;rw[hk0] at hp
   rcases hp with ⟨l,r,e,_⟩|⟨_,hp⟩
   . exact absurd (zj e) (hnt l r)
   . refine .inr ⟨fun l r e=>?_,?_⟩
     . cases ok with
       |none=>rw[p.JX rfl] at e;cases e
       |some k'=>
        rw[p.kR rfl] at e;obtain rfl:=zj e;exact hn _ rfl
     . rw[hs.en]
       refine hp.imp (fun x=>⟨x.1,.inl (x.2.resolve_right (fun e=>?_))⟩) (fun x=>x);obtain rfl:=zj e
       cases hA
 . cases ok with
   |none=>rw[p.JX rfl] at hk';cases hk'
   |some k2=>
    rw[p.kR rfl] at hk';obtain rfl:=zj hk';exact .inr ((hn _ rfl).mono (fun b hb=>be.bnd hb (Nat.le_of_eq hlim.symm) hs.id) (fun w hw=>be.ck hw) hs.bg hs.en hs.id)
 . cases ok with
   |some k2=>rw[p.kR rfl] at hk';cases hk'
   |none=>
    obtain⟨r',rfl⟩:=yC hA (by rw[p.run]);rw[hs.en];exact yS
 . have hb:=h.bo s t p.tx
   have hb2:∀ b,rJ D t b->rJ aH t2 b:=fun b hb=>be.bnd hb (Nat.le_of_eq hlim.symm) hs.id
   rcases hs.bo with e|⟨b,h1,h2,e⟩
   . rw[e];exact⟨hb.1,fun b x=>hb2 b (hb.2 b x)⟩
   . rw[e]
     refine⟨?_,fun b' x=>?_⟩
     . rw[List.nodup_append]
       refine⟨hb.1,by simp,fun a ha b' hb' e9=>?_⟩;rw[List.mem_singleton] at hb';rw[hb'] at e9;rw[e9] at ha;exact h2 ha
     . rw[List.mem_append] at x
       rcases x with x|x
       . exact hb2 b' (hb.2 b' x)
       . simp at x;subst x;exact hb2 b' h1
end
section
variable {N L n s q cq d kd:Nat} {D τ υ aH aD:St} {t t0 t2 u u2:bL} {c c2:dN} {r:oZ} {k:K} {ok:Option K}
theorem TI.AB (h:TI D) (p:Stp N L n s D aH kd r t c k aD ok t2 c2) (hid:t2.id=t.id) (hbg:t2.aJ=t.aJ) (hen:t2.aA=t.aA) (Qu:t2.aP=t.aP) (h0:aH.word 0=D.word 0) (hst:∀ b,iO D b->iO aH b)
 (hal:aH.aj.getD s none=some t2∨(aH.aj.getD s none=none∧iO aH t.id))
 (hwo:∀ q u,q≠s->D.aj.getD q none=some u->PW (D.word (D.place u.id)) u (D.gQ q)->PW (aH.word (D.place u.id)) u (D.gQ q))
 (hws:aH.aj.getD s none=some t2->PW (aH.word (D.place t.id)) t2 (aH.gQ s))
 (hub:∀ id,id=0∨D.aB<id->id<=2000->aH.word (D.place id)=0)
 (hkk:∀ k',aH.gQ s=some k'->(∃ l r,k'=.turns l r)∨KT (rJ D t) (mH D) t k')
 (Xm:aH.aj.getD s none=some t2->aH.gQ s=none->t.aA=0):TI aH:=by
 have be:Rel D aH s t t2:=⟨p.aB,p.aF,p.ox,p.oc,p.tx,hid,hbg,fun _=>hen,by rw[h0];exact zr _,hst,hal⟩
 have hlim:lim t2=lim t:=by unfold lim;rw[hen,hbg]
 have hb:=h.bg s t p.tx;refine h.next be ⟨by rw[hen,h0];exact hb.2.2.1,by rw[hen,hbg];exact hb.2.2.2⟩ (.inl hen) hwo hws hub (by rw[h0];exact be.ck h.ck) (fun k' _ hk'=>?_) (fun ha hk'=>by rw[hen];exact Xm ha hk') ?_
 . exact (hkk k' hk').imp (fun x=>x) (fun x=>x.mono (fun b hb=>be.bnd hb (Nat.le_of_eq hlim.symm) hid) (fun w hw=>be.ck hw) hbg hen hid)
 . have hb:=h.bo s t p.tx
   rw[Qu];exact⟨hb.1,fun b x=>be.bnd (hb.2 b x) (Nat.le_of_eq hlim.symm) hid⟩
theorem vw {N:Nat} {a b:Nat} (h:D.place a=D.place b):a=b:=by unfold St.place at h;omega
theorem Ch (D:St) (w:Nat):(D.dx w).aj=D.aj∧(D.dx w).aT=D.aT∧(D.dx w).calls=D.calls:=by
 unfold St.dx St.cB;split<;>exact⟨rfl,rfl,rfl⟩
theorem nJ (D:St) (i a b:Nat):(D.cB i a b).aj=D.aj∧(D.cB i a b).aT=D.aT∧(D.cB i a b).calls=D.calls:=by
 unfold St.cB;split<;>exact⟨rfl,rfl,rfl⟩
theorem TI.MI (h:TI D) (hw:WF N L n D) (p:Stp N L n s D aH kd r t c k aD ok t2 c2) {w:Nat} (hlo:aZ w≠0) (hlm:aZ w<=2000) (hck:∀ s t,D.aj.getD s none=some t->t.id=aZ w->t.aA=ai w∧t.aA≠0)
 (hwr:wr (D.aK s {c with waits:=false}) s k=if D.word (D.place (aZ w))=pack 1 0 then some (D.place (aZ w),pack 2 (ai w)) else none):
 aH.word 0=D.word 0∧(∀ b,iO D b->iO aH b)∧(∀ id,id=0∨D.aB<id->id<=2000->aH.word (D.place id)=0)∧
 ∀ q u ko,D.aj.getD q none=some u->PW (D.word (D.place u.id)) u ko->PW (aH.word (D.place u.id)) u ko:=by
 have hpl':∀ id,aH.place id=D.place id:=fun id=>by unfold St.place;rw[p.aF]
 by_cases hf:D.word (D.place (aZ w))=pack 1 0
 . rw[aV hf] at hwr
   have hlen:D.place (aZ w)<D.words.length:=by rw[hw.sh.place,hw.sh.nw];omega
   have hj:=(p.jI hwr 0).2 hlen;have hne:∀ id,id≠aZ w->aH.word (D.place id)=D.word (D.place id):=fun id hi=>(p.jI hwr _).1 (fun e=>hi (vw (N:=N) e))
   refine⟨(p.jI hwr 0).1 (by rw[hw.sh.place];omega),fun b hb=>?_,fun id h1 h2=>?_,fun q u ko hu hp=>?_⟩
   . unfold iO at hb ⊢
     rw[hpl']
     by_cases e:b=aZ w
     . subst e;rw[hf,eU (by omega)] at hb;omega
     . rw[hne b e];exact hb
   . have e:id≠aZ w:=by
      rintro rfl;have:=h.ub _ h1 h2;rw[hf] at this;cases this
     rw[hne id e];exact h.ub id h1 h2
   . by_cases e:u.id=aZ w
     . rw[e,hj]
       rw[e,hf] at hp;obtain⟨g1,g2⟩:=hck q u hu e
       rcases hp with ⟨l,r,_,h4,h5⟩|⟨g3,_⟩
       . have:bz (pack 1 0)=r.over:=by rw[h5,eU (by omega)]
         rw[eU (by omega)] at this;omega
       . exact .inr ⟨g3,.inr ⟨by rw[g1],g2⟩⟩
     . rw[hne _ e];exact hp
 . rw[aR hf] at hwr
   have hn:=p.su hwr;exact⟨hn 0,fun b hb=>by unfold iO at hb ⊢;rw[hpl',hn];exact hb,fun id h1 h2=>by rw[hn];exact h.ub id h1 h2,fun q u ko _ hp=>by rw[hn];exact hp⟩
theorem TI.yD (h:TI D) (hw:WF N L n D) {w now:Nat} (p:Stp N L n s D aH kd r t c (.ed w now) aD ok t2 c2):TI aH∧t2=t∧aD.aT=D.aT:=by
 have yS:KT (rJ D t) (mH D) t (.ed w now):=by
  rcases h.kk s t _ p.tx p.zq with ⟨l,r,e⟩|hx
  . cases e
  . exact hx
 obtain⟨k1,k2,k3,k4⟩:=yS;have e1:=p.run;simp only[St.run] at e1;obtain⟨e1,e2⟩:=iQ _ _ _ _ ▸ e1;obtain⟨f1,f2,f3⟩:=Ch (D.aK s {c with waits:=false}) w;rw[e1] at f1 f2;have et:t2=t:=p.tt (by rw[f1];exact p.tx);subst et;obtain⟨a1,a2,a3,a4⟩:=h.MI hw p k3 p.Cv.2.1 k4.2.2 rfl;refine⟨h.AB p rfl rfl rfl rfl a1 a2 (.inl (p.go _ e2.symm).2.2.2.1) (fun q u _ hu hp=>a4 q u _ hu hp) (fun _=>?_) a3 (fun k' hk'=>?_) (fun _ hk'=>?_),rfl,f2⟩
 . have hp:=a4 s t2 _ p.tx (h.wd s t2 p.tx)
   rw[p.zq] at hp;rw[p.kR e2.symm]
   rcases hp with ⟨l,r,e,_⟩|⟨_,hp⟩
   . cases e
   . exact .inr ⟨fun l r e=>(by cases e),hp.imp (fun x=>⟨x.1,.inl k1⟩) (fun x=>x)⟩
 . rw[p.kR e2.symm] at hk'
   obtain rfl:=zj hk';exact .inr ⟨k1,k2,k4⟩
 . rw[p.kR e2.symm] at hk';cases hk'
theorem TI.yE (h:TI D) (hw:WF N L n D) (p:Stp N L n s D aH kd r t c .dR aD ok t2 c2):TI aH∧t2=t∧aD.aT=D.aT:=by
 have yS:KT (rJ D t) (mH D) t .dR:=by
  rcases h.kk s t _ p.tx p.zq with ⟨l,r,e⟩|hx
  . cases e
  . exact hx
 have hi:=h.ip s t p.tx;have hm:=hw.sh.md;have hlt:aZ (aW t.aA t.id)=t.id:=by unfold aZ aW;omega
 have qb:ai (aW t.aA t.id)=t.aA:=by unfold ai aW;omega
 have e1:=p.run;simp only[St.run] at e1;obtain⟨e1,e2⟩:=iQ _ _ _ _ ▸ e1;rw[p.m.et] at e1 e2;obtain⟨f1,f2,f3⟩:=Ch (D.aK s {c with waits:=false}) (aW t.aA t.id);rw[e1] at f1 f2;have et:t2=t:=p.tt (by rw[f1];exact p.tx);subst et;have e3:((D.aK s {c with waits:=false}).dx (aW t2.aA t2.id)).t s=t2:=by
  rw[e1];obtain⟨d,m2⟩:=p.m2;exact m2.et
 rw[e3] at e2
 obtain ⟨a1, a2, a3, a4⟩ := h.MI hw p (w := aW t2.aA t2.id) (by omega) (by omega) (fun q u hu hq => by
   rw[hlt] at hq
   have:=h.uq q s u t2 hu p.tx hq
   subst this
   rw[p.tx] at hu
   obtain rfl:=zj hu
   exact⟨qb.symm,yS⟩) (by simp only[wr];rw[p.m.et];rfl)
 have hpw:aH.word (D.place t2.id)=pack 2 t2.aA:=by
  have hp:=h.wd s t2 p.tx;rw[p.zq] at hp;have hwr:wr (D.aK s {c with waits:=false}) s .dR=if D.word (D.place t2.id)=pack 1 0 then some (D.place t2.id,pack 2 t2.aA) else none:=by
   simp only[wr];rw[p.m.et,hlt,qb];rfl
  rcases hp with ⟨l,r,e,_⟩|⟨_,⟨g1,_⟩|⟨g1,_⟩⟩
  . cases e
  . rw[aV g1] at hwr
    exact (p.jI hwr 0).2 (by rw[hw.sh.place,hw.sh.nw];omega)
  . rw[aR (by rw[g1];unfold pack;omega)] at hwr
    rw[p.su hwr];exact g1
 have hj:∀ l r,dG t2 0≠.turns l r:=by
  intro l r e;unfold dG at e;simp only at e
  split at e
  . unfold jJ at e
    split at e<;>cases e
  . cases e
 refine⟨h.AB p rfl rfl rfl rfl a1 a2 (.inl (p.go _ e2.symm).2.2.2.1) (fun q u _ hu hp=>a4 q u _ hu hp) (fun _=>?_) a3 (fun k' hk'=>?_) (fun _ hk'=>?_),rfl,f2⟩
 . rw[p.kR e2.symm,hpw]
   exact .inr ⟨fun l r e=>hj l r (zj e),.inr ⟨rfl,yS⟩⟩
 . rw[p.kR e2.symm] at hk'
   obtain rfl:=zj hk';exact .inr (AA rfl yS 0)
 . rw[p.kR e2.symm] at hk';cases hk'
theorem TI.qO (h:TI D) (hw:WF N L n D) (p:Stp N L n s D aH kd r t c k aD ok t2 c2) {x:Nat} (hx:x=3∨x=4) (hwr:wr (D.aK s {c with waits:=false}) s k=some (D.place t.id,pack x t.aA))
 (hid:t2.id=t.id) (hbg:t2.aJ=t.aJ) (hen:t2.aA=t.aA) (Qu:t2.aP=t.aP) {l:List zy} {r':oZ} (hr:r'.over=x) (hok:ok=some (.turns l r')):TI aH:=by
 have hpl':∀ id,aH.place id=D.place id:=fun id=>by unfold St.place;rw[p.aF]
 have hi:=h.ip s t p.tx;have hm:=hw.sh.md;have hlen:D.place t.id<D.words.length:=by rw[hw.sh.place,hw.sh.nw];omega
 have hj:=(p.jI hwr 0).2 hlen;have hne:∀ id,id≠t.id->aH.word (D.place id)=D.word (D.place id):=fun id hi=>(p.jI hwr _).1 (fun e=>hi (vw (N:=N) e))
 refine h.AB p hid hbg hen Qu ((p.jI hwr 0).1 (by rw[hw.sh.place];omega)) (fun b hb=>?_) (.inl (p.go _ hok).2.2.2.1) (fun q u hq hu hp=>?_) (fun _=>?_) (fun id h1 h2=>?_) (fun k' hk'=>?_) (fun _ hk'=>?_)
 . unfold iO at hb ⊢
   rw[hpl']
   by_cases e:b=t.id
   . rw[e,hj,eU (by omega)];exact hx
   . rw[hne b e];exact hb
 . rw[hne _ (fun e=>hq (h.uq q s u t hu p.tx e))];exact hp
 . rw[p.kR hok,hj]
   exact .inl ⟨l,r',rfl,by rw[hr];exact hx,by rw[hr,hen]⟩
 . rw[hne id (by omega)];exact h.ub id h1 h2
 . rw[p.kR hok] at hk'
   obtain rfl:=zj hk';exact .inl ⟨_,_,rfl⟩
 . rw[p.kR hok] at hk';cases hk'
theorem AJ (hs:s<D.aj.length) (ht:D.aj.getD s none=some t) (e:Ev):(D.dH s e).aj.getD s none=some {t with over:=true}∧(D.dH s e).aT=if t.over then D.aT else D.aT++[e]:=by
 have et:D.t s=t:=by unfold St.t;rw[ht];rfl
 unfold St.dH;rw[et]
 by_cases ho:t.over=true
 . rw[aV ho,aV ho]
   refine⟨?_,rfl⟩;rw[ht]
   cases t;simp at ho;simp[ho]
 . rw[aR ho,aR ho]
   refine⟨?_,rfl⟩;show (D.aj.set s _).getD s none=_;rw[aS _ _ _ _ hs,aV rfl]
theorem TI.og (h:TI D) (hw:WF N L n D) (p:Stp N L n s D aH kd r t c .cZ aD ok t2 c2):TI aH∧t2={t with over:=true}∧aD.aT=(if t.over then D.aT else D.aT++[{kind:=5,t:=t.id}])∧ok=some (.turns (eY D t) {over:=3}):=by
 have yS:KT (rJ D t) (mH D) t .cZ:=by
  rcases h.kk s t _ p.tx p.zq with ⟨l,r,e⟩|hx
  . cases e
  . exact hx
 have e1:=p.run;simp only[St.run] at e1;obtain⟨e1,e2⟩:=iQ _ _ _ _ ▸ e1;rw[p.m.et] at e1 e2;obtain⟨f1,f2⟩:=AJ (D:=(D.aK s {c with waits:=false}).put ((D.aK s {c with waits:=false}).place t.id) (pack 3 t.aA)) (s:=s) (t:=t) (by show s<D.aj.length;rw[hw.sh.t8];exact p.m.s8) p.tx {kind:=5,t:=t.id};rw[e1] at f1 f2;have et:=p.tt f1;subst et;exact⟨h.qO hw p (x:=3) (.inl rfl) (by simp only[wr];rw[p.m.et];rfl) rfl rfl rfl rfl rfl e2.symm,rfl,f2,e2.symm⟩
theorem TI.pV (h:TI D) (hw:WF N L n D) {e rs:Nat} (p:Stp N L n s D aH kd r t c (.abort e rs) aD ok t2 c2):TI aH∧t2={t with over:=true}∧aD.aT=(if t.over then D.aT else D.aT++[{kind:=6,t:=t.id,res:={aQ:=rs}}])∧ok=some (.turns (fV D t) {e:=e,over:=4,aQ:=rs}):=by
 have e1:=p.run;simp only[St.run] at e1;obtain⟨e1,e2⟩:=iQ _ _ _ _ ▸ e1;rw[p.m.et] at e1 e2;obtain⟨f1,f2⟩:=AJ (D:=(D.aK s {c with waits:=false}).put ((D.aK s {c with waits:=false}).place t.id) (pack 4 t.aA)) (s:=s) (t:=t) (by show s<D.aj.length;rw[hw.sh.t8];exact p.m.s8) p.tx {kind:=6,t:=t.id,res:={aQ:=rs}};rw[e1] at f1 f2;have et:=p.tt f1;subst et;exact⟨h.qO hw p (x:=4) (.inr rfl) (by simp only[wr];rw[p.m.et];rfl) rfl rfl rfl rfl rfl e2.symm,rfl,f2,e2.symm⟩
theorem TI.pW (h:TI D) (hw:WF N L n D) {tl:List zy} {r0:oZ} (p:Stp N L n s D aH kd r t c (.turns tl r0) aD ok t2 c2):TI aH∧t2=t∧aD.aT=D.aT∧(∀ x l,tl=x::l->ok=some (.turns l r0))∧(tl=[]->ok=none∧c2.r=r0):=by
 have hp:=h.wd s t p.tx;rw[p.zq] at hp;obtain⟨l',r',e,hov,hpw⟩:∃ l r,some (K.turns tl r0)=some (.turns l r)∧(r.over=3∨r.over=4)∧D.word (D.place t.id)=pack r.over t.aA:=by
  rcases hp with hp|⟨hp,_⟩
  . exact hp
  . exact absurd rfl (hp tl r0)
 obtain⟨rfl,rfl⟩:=K.turns.injEq _ _ _ _ ▸ zj e;have hpl':∀ id,aH.place id=D.place id:=fun id=>by unfold St.place;rw[p.aF]
 have hst:iO D t.id:=by unfold iO;rw[hpw,eU (by omega)];exact hov
 have e1:=p.run
 cases tl with
 |nil=>
  simp only[St.run] at e1;obtain⟨e1,e2⟩:=iQ _ _ _ _ ▸ e1;have et:t2=t:=p.tt (by rw[<-e1];exact p.tx);subst et;have UG:=p.m.s8;have hwr:wr (D.aK s {c with waits:=false}) s (.turns [] r0)=some (1+s,0):=rfl;have hpl:∀ id,aH.word (D.place id)=D.word (D.place id):=fun id=>(p.jI hwr _).1 (by rw[hw.sh.place];omega)
  have hc2:c2.r=r0:=by
   obtain⟨d,m2⟩:=p.m2;rw[<-m2.ec,<-e1];unfold St.finish St.c St.aK St.put;simp only;rw[aS _ _ _ _ (by show s<(D.calls.set s _).length;rw[rz,hw.sh.c8];exact UG),aV rfl];rfl
  have yF:aH.aj.getD s none=none:=by
   rcases (p.no e2.symm).2.2.2 with ⟨g,_⟩|⟨_,g,_⟩
   . rw[hc2] at g;omega
   . exact g
  refine⟨h.AB p rfl rfl rfl rfl ((p.jI hwr 0).1 (by omega)) (fun b hb=>by unfold iO at hb ⊢;rw[hpl',hpl];exact hb) (.inr ⟨yF,by unfold iO at hst ⊢;rw[hpl',hpl];exact hst⟩) (fun q u _ _ hp=>by rw[hpl];exact hp) (fun x=>by rw[yF] at x;cases x) (fun id h1 h2=>by rw[hpl];exact h.ub id h1 h2) (fun k' hk'=>by rw[p.JX e2.symm] at hk';cases hk') (fun x=>by rw[yF] at x;cases x),rfl,by rw[<-e1];rfl,fun x l e=>(by cases e),fun _=>⟨e2.symm,hc2⟩⟩
 |cons x l=>
  simp only[St.run] at e1;obtain⟨e1,e2⟩:=iQ _ _ _ _ ▸ e1;have htx:aD.aj=D.aj∧aD.aT=D.aT:=by
   rw[<-e1]
   split
   . exact⟨rfl,rfl⟩
   . exact⟨(nJ _ _ _ _).1,(nJ _ _ _ _).2.1⟩
  have et:t2=t:=p.tt (by rw[htx.1];exact p.tx);subst et;have hx:=(p.Cv.2.2 x nK).2;have hwd:∀ i,i<9∨73+N*3<=i->aH.word i=D.word i:=by
   intro i hi
   by_cases hf:x.old=0∨(D.aK s {c with waits:=false}).word x.at_=x.old
   . exact (p.jI (j:=x.at_) (v:=x.new) (by simp only[wr];rw[aV hf]) i).1 (by omega)
   . exact p.su (by simp only[wr];rw[aR hf]) i
  have hpl:∀ id,aH.word (D.place id)=D.word (D.place id):=fun id=>hwd _ (by rw[hw.sh.place];omega)
  refine⟨h.AB p rfl rfl rfl rfl (hwd 0 (by omega)) (fun b hb=>by unfold iO at hb ⊢;rw[hpl',hpl];exact hb) (.inl (p.go _ e2.symm).2.2.2.1) (fun q u _ _ hp=>by rw[hpl];exact hp) (fun _=>?_) (fun id h1 h2=>by rw[hpl];exact h.ub id h1 h2) (fun k' hk'=>?_) (fun _ hk'=>?_),rfl,htx.2,fun y l' e=>?_,fun e=>(by cases e)⟩
  . rw[p.kR e2.symm,hpl,hpw]
    exact .inl ⟨l,r0,rfl,hov,rfl⟩
  . rw[p.kR e2.symm] at hk'
    obtain rfl:=zj hk';exact .inl ⟨_,_,rfl⟩
  . rw[p.kR e2.symm] at hk';cases hk'
  . obtain⟨rfl,rfl⟩:=List.cons.injEq _ _ _ _ ▸ e
    exact e2.symm
theorem TI.AL (h:TI D) (hw:WF N L n D) {w now:Nat} (p:Stp N L n s D aH kd r t c (.turn w now) aD ok t2 c2):TI aH∧((D.word 0≠w∧t2=t∧aD.aT=D.aT∧aH.word 0=D.word 0∧ok=some .draw)∨(D.word 0=w∧t2={t with aA:=ai (D.word 0)+1}∧aD.aT=D.aT++[{kind:=3,t:=t.id,n:=ai (D.word 0)+1}]∧ai (aH.word 0)=ai (D.word 0)+1∧ok=some .dR)):=by
 have yS:KT (rJ D t) (mH D) t (.turn w now):=by
  rcases h.kk s t _ p.tx p.zq with ⟨l,r,e⟩|hx
  . cases e
  . exact hx
 obtain⟨k1,k2,k3⟩:=yS;have hi:=h.ip s t p.tx;have hm:=hw.sh.md;have hb:=h.bg s t p.tx;have e1:=p.run;simp only[St.run] at e1;rw[p.m.et] at e1;have hwd:=h.wd s t p.tx;rw[p.zq] at hwd;have hw1:D.word (D.place t.id)=pack 1 0:=by
  rcases hwd with ⟨l,r,e,_⟩|⟨_,⟨g1,_⟩|⟨_,g2⟩⟩
  . cases e
  . exact g1
  . exact absurd k1 g2
 by_cases hf:D.word 0=w
 . have hf':(D.aK s {c with waits:=false}).word 0=w:=hf
   rw[aR (fun x=>x hf')] at e1;obtain⟨e1,e2⟩:=iQ _ _ _ _ ▸ e1;have hwr:wr (D.aK s {c with waits:=false}) s (.turn w now)=some (0,aW (now+1) t.id):=by
    simp only[wr];rw[aV hf',p.m.et]
   have h0:=(p.jI hwr 0).2 (by rw[hw.sh.nw];omega);have hpl:∀ id,aH.word (D.place id)=D.word (D.place id):=fun id=>(p.jI hwr _).1 (by rw[hw.sh.place];omega)
   have hpl':∀ id,aH.place id=D.place id:=fun id=>by unfold St.place;rw[p.aF]
   have qb:ai (aH.word 0)=ai (D.word 0)+1:=by rw[h0,hf,k2];unfold ai aW;omega
   have hla:aZ (aH.word 0)=t.id:=by rw[h0];unfold aZ aW;omega
   have PI:now=ai (D.word 0):=by rw[hf,k2]
   have ec:((D.aK s {c with waits:=false}).cB 0 w (aW (now+1) t.id)).t s=t:=by
    unfold St.t;rw[(nJ _ _ _ _).1];exact p.m.et
   rw[ec] at e1
   have et : t2 = { t with aA := now + 1 } := p.tt (by
     rw[<-e1]
     show ((((D.aK s {c with waits:=false}).cB 0 w (aW (now+1) t.id)).aj).set s _).getD s none=_
     rw[(nJ _ _ _ _).1,aS _ _ _ _ (by show s<D.aj.length;rw[hw.sh.t8];exact p.m.s8),aV rfl])
   subst et;have be:Rel D aH s t {t with aA:=now+1}:=⟨p.aB,p.aF,p.ox,p.oc,p.tx,rfl,rfl,fun x=>absurd k1 x,by omega,fun b hb=>by unfold iO at hb ⊢;rw[hpl',hpl];exact hb,.inl (p.go _ e2.symm).2.2.2.1⟩
   have hl1:lim t<=lim {t with aA:=now+1}:=by
    unfold lim;rw[aV k1,aR (by show ¬ now+1=0;omega)];show t.aJ<=now+1;omega
   refine⟨h.next be ⟨by show now+1<=_;omega,fun _=>by show t.aJ<now+1;omega⟩ (.inr (by show _<now+1;omega)) (fun q u _ _ hp=>by rw[hpl];exact hp) (fun _=>?_) (fun id h1 h2=>by rw[hpl];exact h.ub id h1 h2) ⟨by rw[hla,p.aB];exact hi.2,zr _,fun q u hu hq=>?_⟩ (fun k' _ hk'=>?_) (fun _ hk'=>?_) ?_,.inr ⟨hf,by rw[PI],?_,qb,e2.symm⟩⟩
   . rw[p.kR e2.symm,hpl,hw1]
     exact .inr ⟨fun l r e=>(by cases e),.inl ⟨rfl,.inr rfl⟩⟩
   . rw[hla] at hq
     rcases be.alive hu with ⟨e,g⟩|⟨rfl,rfl⟩
     . exact absurd (h.uq q s u t g p.tx hq) e
     . exact⟨by show now+1=_;omega,by show now+1≠0;omega⟩
   . rw[p.kR e2.symm] at hk'
     obtain rfl:=zj hk';exact .inr (by show now+1≠0;omega)
   . rw[p.kR e2.symm] at hk';cases hk'
   . have Qu:=h.bo s t p.tx
     exact⟨Qu.1,fun b x=>be.bnd (Qu.2 b x) hl1 rfl⟩
   . rw[<-e1,PI]
     show ((D.aK s {c with waits:=false}).cB _ _ _).aT++_=_;rw[(nJ _ _ _ _).2.1];show D.aT++_=_;rw[<-PI]
 . have hf':¬ (D.aK s {c with waits:=false}).word 0=w:=hf
   rw[aV hf'] at e1;obtain⟨e1,e2⟩:=iQ _ _ _ _ ▸ e1;have hn:=p.su (by simp only[wr];rw[aR hf']);have et:t2=t:=p.tt (by rw[<-e1,(nJ _ _ _ _).1];exact p.tx);subst et;have hpl':∀ id,aH.place id=D.place id:=fun id=>by unfold St.place;rw[p.aF]
   refine⟨h.AB p rfl rfl rfl rfl (hn 0) (fun b hb=>by unfold iO at hb ⊢;rw[hpl',hn];exact hb) (.inl (p.go _ e2.symm).2.2.2.1) (fun q u _ _ hp=>by rw[hn];exact hp) (fun _=>?_) (fun id h1 h2=>by rw[hn];exact h.ub id h1 h2) (fun k' hk'=>?_) (fun _ hk'=>?_),.inl ⟨hf,rfl,?_,hn 0,e2.symm⟩⟩
   . rw[p.kR e2.symm,hn,hw1]
     exact .inr ⟨fun l r e=>(by cases e),.inl ⟨rfl,.inl k1⟩⟩
   . rw[p.kR e2.symm] at hk'
     obtain rfl:=zj hk';exact .inr k1
   . rw[p.kR e2.symm] at hk';cases hk'
   . rw[<-e1,(nJ _ _ _ _).2.1];rfl
end
structure Ta (N L n s:Nat) (D aH:St) (o:En.Op) (t:bL) (k:K) (dU:St) (t2:bL) (c2:dN):Prop where
 tx:D.aj.getD s none=some t
 ca:D.calls.getD s none=none
 op:p9 o=true
 m:Mid N L n s 0 (cO D s o t) (cO D s o t) (jq o t) (gN o (D.seq+1))
 run:(cO D s o t).first s=(dU,k)
 m2:Mid N L n s 0 (cO D s o t) dU t2 c2
 Cv:xU N L t2 c2 k
 e1:aH=dU.aK s {c2 with k:=some k}
 oc:∀ q,q≠s->aH.calls.getD q none=D.calls.getD q none
 ox:∀ q,q≠s->aH.aj.getD q none=D.aj.getD q none
 cc:aH.calls.getD s none=some {c2 with k:=some k}
 tt:aH.aj.getD s none=some t2
section
variable {N L n s q cq d kd:Nat} {D τ υ aH aD dU:St} {t t0 t2 u u2:bL} {c c2:dN} {r:oZ} {k:K} {ok:Option K} {o:En.Op} {P Q:Nat->Prop}
theorem WF.GN (h:WF N L n D) (hs:s<8) (hi:jh D s o=some aH):∃ t k dU t2 c2,Ta N L n s D aH o t k dU t2 c2:=by
 unfold jh at hi
 split at hi
 . rename_i t ht
   split at hi
   . rename_i hcond
     obtain⟨ho,hc,hop,-,-,-,-⟩:=hcond;have hc0:D.calls.getD s none=none:=by simpa using hc
     have m:=h.RQ hs ht o ho (hop.imp (fun x=>x) (fun x=>x.1));have hout:=uX m rfl rfl;have fo:=Ar D s o t (by rw[h.sh.c8];exact hs) (by rw[h.sh.t8];exact hs)
     cases e:(cO D s o t).first s with
     |mk dU k=>
     rw[e] at hout hi;obtain⟨t2,c2,m2,h1,h2,h3⟩:=hout;simp only at m2 h3 hi;rw[m2.ca] at hi;simp only at hi
     split at hi
     . obtain rfl:=zj hi
       have sH:s<dU.calls.length:=by rw[m2.sh.c8];exact hs
       refine⟨t,k,dU,t2,c2,ht,hc0,ho,m,e,m2,h3,rfl,fun q hq=>?_,fun q hq=>(m2.ox q hq).trans (fo q hq).1,?_,m2.tx⟩
       . show (dU.calls.set s _).getD q none=_
         rw[aS _ _ _ _ sH,aR hq];exact (m2.oc q hq).trans (fo q hq).2
       . show (dU.calls.set s _).getD s none=_
         rw[aS _ _ _ _ sH,aV rfl]
     . cases hi
   . cases hi
 . cases hi
theorem MJ (m:Mid N L n s d D τ t c) (h0:t.aA=0):TO N L n s d D P Q t τ.aT (τ.first s):=by
 have et:=m.et;have ec:=m.ec;have r0:jk P t t:=jk.refl t;have h1:∀ th,(∀ i l,th≠.judge i l)->HT t ⟨c.op.F,t.aJ,th⟩:=by
  intro th hj;unfold HT
  split
  . rename_i e;exact absurd e (hj _ _)
  . exact⟨rfl,h0⟩
 unfold St.first;simp only;rw[et,ec]
 split
 . split
   . exact⟨t,c,m,r0,.inl ⟨rfl,rfl⟩,by split<;>exact h0⟩
   . exact⟨t,c,m,r0,.inl ⟨rfl,rfl⟩,h1 .get (by intro i l e;cases e)⟩
 . exact Cf _ _ _ c m r0 (.inl ⟨rfl,rfl⟩) h0
 . exact⟨t,c,m,r0,.inl ⟨rfl,rfl⟩,h0⟩
 . exact⟨t,c,m,r0,.inl ⟨rfl,rfl⟩,trivial⟩
 . split
   . split
     . exact⟨t,c,m,r0,.inl ⟨rfl,rfl⟩,h0⟩
     split
     . exact⟨t,c,m,r0,.inl ⟨rfl,rfl⟩,h0⟩
     split
     . exact Cg m r0 (.inl ⟨rfl,rfl⟩) h0 true 0 0
     . exact⟨t,c,m,r0,.inl ⟨rfl,rfl⟩,h0⟩
   . exact⟨t,c,m,r0,.inl ⟨rfl,rfl⟩,h1 .change (by intro i l e;cases e)⟩
theorem MK (s:Nat) (τ:St):Ws τ (τ.first s).1:=by
 unfold St.first;simp only
 split
 . split<;>exact Ws.refl τ
 . exact BU s τ _
 . exact Ws.refl τ
 . exact Ws.refl τ
 . split
   . split
     . exact Ws.refl τ
     split
     . exact Ws.refl τ
     split
     . exact BX s τ true 0 0
     . exact Ws.refl τ
   . exact Ws.refl τ
theorem GQ (s:Nat):∀ (k:Nat) (τ:St) (F:Nat),(iE s k τ F).1.aT=τ.aT:=by
 intro k
 induction k with
 |zero=>intro τ F;rfl
 |succ k ih=>
  intro τ F;unfold iE
  split
  . rfl
  . split
    . rw[ih];split<;>rfl
    . rfl
theorem JY (s:Nat) (τ:St) (x:Bool) (G head:Nat):(τ.slot s x G head).1.aT=τ.aT:=by
 unfold St.slot
 by_cases h0:G=0
 . rw[aV h0]
   have e1:=(uW τ).2.2.2.2.2.2.1
   cases e:τ.take with
   |mk bB o=>
    rw[e] at e1
    cases o with
    |none=>exact e1
    |some l=>exact e1
 . rw[aR h0]
theorem GR (s:Nat) (τ:St):(τ.first s).1.aT=τ.aT:=by
 unfold St.first;simp only
 split
 . split<;>rfl
 . exact GQ s _ τ _
 . rfl
 . rfl
 . split
   . split
     . rfl
     split
     . rfl
     split
     . exact JY s τ true 0 0
     . rfl
   . rfl
theorem yG (D:St) (s:Nat) (o:En.Op) (t:bL):(cO D s o t).words=D.words∧(cO D s o t).aF=D.aF∧(cO D s o t).aB=D.aB∧(cO D s o t).aT=D.aT:=by
 unfold cO;split<;>exact⟨rfl,rfl,rfl,rfl⟩
theorem Ta.ws (p:Ta N L n s D aH o t k dU t2 c2):Ws D aH∧aH.aB=D.aB:=by
 obtain⟨a,b,c,d⟩:=yG D s o t;have h:=MK s (cO D s o t);rw[p.run] at h;have hm:=p.m2.md;rw[p.e1];exact⟨⟨h.1.trans a,h.2.trans b⟩,hm.trans c⟩
theorem EE (o:En.Op) (t:bL):(jq o t).id=t.id∧(jq o t).aJ=t.aJ∧(jq o t).aA=t.aA∧(jq o t).aP=t.aP∧(jq o t).az=t.az∧(jq o t).over=t.over:=by
 unfold jq;split<;>exact⟨rfl,rfl,rfl,rfl,rfl,rfl⟩
theorem TI.mf (h:TI D) (hw:WF N L n D) (p:Ta N L n s D aH o t k dU t2 c2):TI aH∧jk (rJ D t) (jq o t) t2∧aH.aT=D.aT:=by
 have hk0:D.gQ s=none:=by unfold St.gQ;rw[p.ca];rfl
 have h0:=h.UZ s t p.tx hk0;obtain⟨f1,f2,f3,f4,f5,f6⟩:=EE o t;have hto:=MJ (P:=fun b=>rJ D t b∧False) (Q:=mH D) p.m (by rw[f3];exact h0);rw[p.run] at hto;obtain⟨t',c',m',hs',hl,hn⟩:=hto;have e:t2=t':=zj (p.m2.tx.symm.trans m'.tx);subst e;have hs:jk (rJ D t) (jq o t) t2:=⟨hs'.id,hs'.bg,hs'.en,hs'.lv,hs'.ov,hs'.bo.imp (fun x=>x) (fun ⟨b,hb,_⟩=>hb.2.elim)⟩
 have hb2:t2.aP=t.aP:=by
  rcases hs'.bo with e|⟨b,hb,_⟩
  . rw[e,f4]
  . exact hb.2.elim
 obtain⟨ws,hm⟩:=p.ws;have CY:aH.aT=D.aT:=by
  have h4:=(yG D s o t).2.2.2;have h5:=GR s (cO D s o t);rw[p.run] at h5;have this:dU.aT=D.aT:=h5.trans h4;rw[p.e1];exact this
 have hid:t2.id=t.id:=hs.id.trans f1;have hbg:t2.aJ=t.aJ:=hs.bg.trans f2;have hen:t2.aA=t.aA:=hs.en.trans f3;have hw':∀ i,aH.word i=D.word i:=fun i=>ws.word i
 have be:Rel D aH s t t2:=⟨hm,ws.2,p.ox,p.oc,p.tx,hid,hbg,fun _=>hen,by rw[hw'];exact zr _,fun b hb=>by unfold iO at hb ⊢;rw[ws.place,hw'];exact hb,.inl p.tt⟩
 have hlim:lim t2=lim t:=by unfold lim;rw[hen,hbg]
 have hb:=h.bg s t p.tx;have hk1:aH.gQ s=some k:=by unfold St.gQ;rw[p.cc];rfl
 have hkt:KT (rJ D t) (mH D) t k:=hn.mono (fun b x=>x.1) (fun w x=>x) f2.symm f3.symm f1.symm;refine⟨h.next be ⟨by rw[hen,hw'];exact hb.2.2.1,by rw[hen,hbg];exact hb.2.2.2⟩ (.inl hen) (fun q u _ _ hp=>by rw[hw'];exact hp) (fun _=>?_) (fun id h1 h2=>by rw[hw'];exact h.ub id h1 h2) (by rw[hw'];exact be.ck h.ck) (fun k' _ hk'=>?_) (fun _ hk'=>by rw[hk1] at hk';cases hk') ?_,hs,CY⟩
 . have hp:=h.wd s t p.tx
   rw[hk0] at hp;rw[hw',hk1]
   rcases hp with ⟨l,r,e,_⟩|⟨_,hp⟩
   . cases e
   . unfold PW
     rw[hen];refine .inr ⟨fun l r e=>?_,hp.imp (fun x=>⟨x.1,.inl h0⟩) (fun x=>x)⟩;obtain rfl:=zj e;exact hkt
 . rw[hk1] at hk'
   obtain rfl:=zj hk';exact .inr (hkt.mono (fun b hb=>be.bnd hb (Nat.le_of_eq hlim.symm) hid) (fun w hw=>be.ck hw) hbg hen hid)
 . have hb:=h.bo s t p.tx
   rw[hb2];exact⟨hb.1,fun b x=>be.bnd (hb.2 b x) (Nat.le_of_eq hlim.symm) hid⟩
theorem TI.quiet (h:TI D) (hm:τ.aB=D.aB) (hsl:τ.aF=D.aF) (hx:τ.aj=D.aj) (hc:τ.calls=D.calls) (h0:τ.word 0=D.word 0) (hp:∀ id,τ.word (D.place id)=D.word (D.place id)):TI τ:=by
 have hpl:∀ id,τ.place id=D.place id:=fun id=>by unfold St.place;rw[hsl]
 have hko:∀ q,τ.gQ q=D.gQ q:=fun q=>by unfold St.gQ;rw[hc]
 have hst:∀ b,iO D b->iO τ b:=fun b hb=>by unfold iO at hb ⊢;rw[hpl,hp];exact hb
 have hbn:∀ u b,rJ D u b->rJ τ u b:=fun u b hb=>⟨hb.1,by rw[hm];exact hb.2.1,hb.2.2.1,hb.2.2.2.imp (hst b) (fun ⟨s',t',g⟩=>⟨s',t',by rw[hx];exact g.1,g.2⟩)⟩
 have hck:∀ w,mH D w->mH τ w:=fun w ⟨a,b,c⟩=>⟨by rw[hm];exact a,by rw[h0];exact b,fun s t ht=>by rw[hx] at ht;exact c s t ht⟩
 refine⟨fun s s' t t' a b=>?_,fun s t a=>?_,fun s t a=>?_,fun s s' t t' a b=>?_,fun s t a=>?_,fun id h1 h2 h3=>?_,fun id h1 h2=>?_,?_,fun s t k a b=>?_,fun s t a b=>?_,fun s t a=>?_⟩
 . rw[hx] at a b;exact h.uq s s' t t' a b
 . rw[hx] at a;rw[hm];exact h.ip s t a
 . rw[hx] at a;rw[h0];exact h.bg s t a
 . rw[hx] at a b;exact h.ne s s' t t' a b
 . rw[hx] at a;rw[hpl,hp,hko];exact h.wd s t a
 . rw[hm] at h2;exact hst _ (h.dd id h1 h2 (fun s t ht=>h3 s t (by rw[hx];exact ht)))
 . rw[hm] at h1;rw[hpl,hp];exact h.ub id h1 h2
 . rw[h0];exact hck _ h.ck
 . rw[hx] at a;rw[hko] at b
   exact (h.kk s t k a b).imp (fun x=>x) (fun x=>x.mono (hbn t) hck rfl rfl rfl)
 . rw[hx] at a;rw[hko] at b;exact h.UZ s t a b
 . rw[hx] at a
   exact⟨(h.bo s t a).1,fun b hb=>hbn t b ((h.bo s t a).2 b hb)⟩
theorem TI.tick (h:TI D):TI D.tick:=h.quiet rfl rfl rfl rfl rfl (fun _=>rfl)
theorem TI.dx (h:TI D) (hw:WF N L n D) {w:Nat} (hlo:aZ w≠0) (hlm:aZ w<=2000) (hck:∀ s t,D.aj.getD s none=some t->t.id=aZ w->t.aA=ai w∧t.aA≠0):TI (D.dx w):=by
 by_cases hf:D.word (D.place (aZ w))=pack 1 0
 . have e:D.dx w=D.put (D.place (aZ w)) (pack 2 (ai w)):=by unfold St.dx St.cB;rw[aV hf]
   rw[e];have hlen:D.place (aZ w)<D.words.length:=by rw[hw.sh.place,hw.sh.nw];omega
   have hj:(D.put (D.place (aZ w)) (pack 2 (ai w))).word (D.place (aZ w))=pack 2 (ai w):=by rw[bZ,aV ⟨rfl,hlen⟩]
   have hne:∀ id,id≠aZ w->(D.put (D.place (aZ w)) (pack 2 (ai w))).word (D.place id)=D.word (D.place id):=fun id hi=>by rw[bZ,aR (fun e=>hi (vw (N:=N) e.1))]
   have h0:(D.put (D.place (aZ w)) (pack 2 (ai w))).word 0=D.word 0:=by rw[bZ,aR (fun e=>by have:=e.1;rw[hw.sh.place] at this;omega)]
   generalize U0:D.put (D.place (aZ w)) (pack 2 (ai w))=τ at hj hne h0;have hm:τ.aB=D.aB:=by rw[<-U0];rfl
   have hx:τ.aj=D.aj:=by rw[<-U0];rfl
   have hpl:∀ id,τ.place id=D.place id:=fun id=>by rw[<-U0];rfl
   have hko:∀ q,τ.gQ q=D.gQ q:=fun q=>by rw[<-U0];rfl
   have hst:∀ b,iO D b->iO τ b:=fun b hb=>by
    unfold iO at hb ⊢;rw[hpl]
    by_cases e:b=aZ w
    . subst e;rw[hf,eU (by omega)] at hb;omega
    . rw[hne b e];exact hb
   have hbn:∀ u b,rJ D u b->rJ τ u b:=fun u b hb=>⟨hb.1,by rw[hm];exact hb.2.1,hb.2.2.1,hb.2.2.2.imp (hst b) (fun ⟨s',t',g⟩=>⟨s',t',by rw[hx];exact g.1,g.2⟩)⟩
   have PM:∀ w,mH D w->mH τ w:=fun w ⟨a,b,c⟩=>⟨by rw[hm];exact a,by rw[h0];exact b,fun s t ht=>by rw[hx] at ht;exact c s t ht⟩
   refine⟨fun s s' t t' a b=>?_,fun s t a=>?_,fun s t a=>?_,fun s s' t t' a b=>?_,fun s t a=>?_,fun id h1 h2 h3=>?_,fun id h1 h2=>?_,?_,fun s t k a b=>?_,fun s t a b=>?_,fun s t a=>?_⟩
   . rw[hx] at a b;exact h.uq s s' t t' a b
   . rw[hx] at a;rw[hm];exact h.ip s t a
   . rw[hx] at a;rw[h0];exact h.bg s t a
   . rw[hx] at a b;exact h.ne s s' t t' a b
   . rw[hx] at a
     rw[hpl,hko];have hp:=h.wd s t a
     by_cases e:t.id=aZ w
     . rw[e,hj]
       rw[e,hf] at hp;obtain⟨g1,g2⟩:=hck s t a e
       rcases hp with ⟨l,r,_,h4,h5⟩|⟨g3,_⟩
       . have:bz (pack 1 0)=r.over:=by rw[h5,eU (by omega)]
         rw[eU (by omega)] at this;omega
       . exact .inr ⟨g3,.inr ⟨by rw[g1],g2⟩⟩
     . rw[hne _ e];exact hp
   . rw[hm] at h2;exact hst _ (h.dd id h1 h2 (fun s t ht=>h3 s t (by rw[hx];exact ht)))
   . rw[hm] at h1
     rw[hpl];have e:id≠aZ w:=by
      rintro rfl;have:=h.ub _ h1 h2;rw[hf] at this;cases this
     rw[hne id e];exact h.ub id h1 h2
   . rw[h0];exact PM _ h.ck
   . rw[hx] at a;rw[hko] at b
     exact (h.kk s t k a b).imp (fun x=>x) (fun x=>x.mono (hbn t) PM rfl rfl rfl)
   . rw[hx] at a;rw[hko] at b;exact h.UZ s t a b
   . rw[hx] at a
     exact⟨(h.bo s t a).1,fun b hb=>hbn t b ((h.bo s t a).2 b hb)⟩
 . have e:D.dx w=D.tick:=by unfold St.dx St.cB;rw[aR hf]
   rw[e];exact h.tick
theorem TI.bM (h:TI D) (hm:D.aB<2000) (hs:s<8) (hw:Sh N L n D) (ht:D.aj.getD s none=none) (hc:D.calls.getD s none=none) (az:Nat) (h4:ai (D.word 0)<281474976710000):TI (bM D s az D):=by
 have hx:∀ q,(Em.bM D s az D).aj.getD q none=if q=s then some (fU (D.aB+1) az (ai (D.word 0)+1)) else D.aj.getD q none:=by
  intro q;show (((({D with aB:=D.aB+1}:St).cB 0 (D.word 0) (aW (ai (D.word 0)+1) 0)).aj).set s _).getD q none=_;rw[(nJ _ _ _ _).1];exact aS _ _ _ _ (by show s<D.aj.length;rw[hw.t8];exact hs)
 have hcl:(Em.bM D s az D).calls=D.calls:=by
  show (({D with aB:=D.aB+1}:St).cB 0 (D.word 0) (aW (ai (D.word 0)+1) 0)).calls=_;rw[(nJ _ _ _ _).2.2]
 have hmd:(Em.bM D s az D).aB=D.aB+1:=by
  show (({D with aB:=D.aB+1}:St).cB 0 (D.word 0) (aW (ai (D.word 0)+1) 0)).aB=_;unfold St.cB;split<;>rfl
 have hsl:(Em.bM D s az D).aF=D.aF:=by
  show (({D with aB:=D.aB+1}:St).cB 0 (D.word 0) (aW (ai (D.word 0)+1) 0)).aF=_;unfold St.cB;split<;>rfl
 have hwd:(Em.bM D s az D).words=((D.words.set 0 (aW (ai (D.word 0)+1) 0)).set (D.place (D.aB+1)) (pack 1 0)).set (1+s) (ai (D.word 0)+1):=by
  show (((({D with aB:=D.aB+1}:St).cB 0 (D.word 0) (aW (ai (D.word 0)+1) 0)).words.set (D.place (D.aB+1)) (pack 1 0)).set (1+s) (ai (D.word 0)+1))=_;rw[fJ,aV (show ({D with aB:=D.aB+1}:St).word 0=D.word 0 from rfl)]
 have hlen:=hw.nw;have hpl:∀ id,D.place id=73+N*3+id:=fun id=>hw.place id
 generalize U0:Em.bM D s az D=τ at hx hcl hmd hsl hwd;have hpl':∀ id,τ.place id=D.place id:=fun id=>by unfold St.place;rw[hsl]
 have hko:∀ q,τ.gQ q=D.gQ q:=fun q=>by unfold St.gQ;rw[hcl]
 have w0:τ.word 0=aW (ai (D.word 0)+1) 0:=by
  unfold St.word;rw[hwd,gP,aR (by omega),gP,aR (by rw[hpl];omega),gP,aV ⟨rfl,by omega⟩];rfl
 have qb:ai (τ.word 0)=ai (D.word 0)+1:=by rw[w0];unfold ai aW;omega
 have hla:aZ (τ.word 0)=0:=by rw[w0];unfold aZ aW;omega
 have wn:τ.word (D.place (D.aB+1))=pack 1 0:=by
  show τ.words.getD _ 0=_;rw[hwd,gP,aR (by rw[hpl];omega),gP,aV ⟨rfl,by rw[rz,hpl];omega⟩]
 have wo:∀ id,id≠D.aB+1->τ.word (D.place id)=D.word (D.place id):=by
  intro id hi;show τ.words.getD _ 0=_;rw[hwd,gP,aR (by rw[hpl];omega),gP,aR (by rw[hpl,hpl];omega),gP,aR (by rw[hpl];omega)];rfl
 have hst:∀ b,b<=D.aB->iO D b->iO τ b:=fun b hb h=>by unfold iO at h ⊢;rw[hpl',wo b (by omega)];exact h
 have hal:∀ {q u},τ.aj.getD q none=some u->(q≠s∧D.aj.getD q none=some u)∨(q=s∧u=fU (D.aB+1) az (ai (D.word 0)+1)):=by
  intro q u hu;rw[hx] at hu
  by_cases e:q=s
  . rw[aV e] at hu;exact .inr ⟨e,(zj hu).symm⟩
  . rw[aR e] at hu;exact .inl ⟨e,hu⟩
 have hne:∀ {q u},D.aj.getD q none=some u->q≠s:=by rintro q u hu rfl;rw[ht] at hu;cases hu
 have hbn:∀ u b,rJ D u b->rJ τ u b:=fun u b hb=>⟨hb.1,by have:=hb.2.1;omega,hb.2.2.1,hb.2.2.2.imp (hst b hb.2.1) (fun ⟨s',t',g⟩=>⟨s',t',by rw[hx,aR (hne g.1)];exact g.1,g.2⟩)⟩
 have PM : ∀ w, mH D w -> mH τ w := fun w ⟨a, b, c⟩ => ⟨by omega, by omega, fun q u hu hi => by
   rcases hal hu with ⟨e,g⟩|⟨rfl,rfl⟩
   . exact c q u g hi
   . have:D.aB+1=aZ w:=hi
     omega⟩
 refine⟨fun q q' u u' hu hu' hi=>?_,fun q u hu=>?_,fun q u hu=>?_,fun q q' u u' hu hu' hq he=>?_,fun q u hu=>?_,fun id h1 h2 h3=>?_,fun id h1 h2=>?_,⟨by omega,zr _,fun q u hu hi=>?_⟩,fun q u k hu Z=>?_,fun q u hu Z=>?_,fun q u hu=>?_⟩
 . rcases hal hu with ⟨e,g⟩|⟨rfl,rfl⟩<;>rcases hal hu' with ⟨e',g'⟩|⟨rfl,rfl⟩
   . exact h.uq q q' u u' g g' hi
   . have:=(h.ip q u g).2
     have:u.id=D.aB+1:=hi;omega
   . have:=(h.ip q' u' g').2
     have:D.aB+1=u'.id:=hi;omega
   . rfl
 . rcases hal hu with ⟨e,g⟩|⟨rfl,rfl⟩
   . have:=h.ip q u g;omega
   . exact⟨by show 1<=D.aB+1;omega,by show D.aB+1<=_;omega⟩
 . rcases hal hu with ⟨e,g⟩|⟨rfl,rfl⟩
   . have h1:=h.bg q u g
     exact⟨h1.1,by omega,by omega,h1.2.2.2⟩
   . exact⟨by show 1<=ai (D.word 0)+1;omega,by show ai (D.word 0)+1<=_;omega,zz _,fun e=>absurd rfl e⟩
 . rcases hal hu with ⟨e,g⟩|⟨rfl,rfl⟩<;>rcases hal hu' with ⟨e',g'⟩|⟨rfl,rfl⟩
   . exact h.ne q q' u u' g g' hq he
   . exact he
   . exact absurd rfl he
   . exact absurd rfl hq
 . rw[hpl',hko]
   rcases hal hu with ⟨e,g⟩|⟨rfl,rfl⟩
   . rw[wo u.id (by have:=(h.ip q u g).2;omega)];exact h.wd q u g
   . have e:D.gQ q=none:=by unfold St.gQ;rw[hc];rfl
     rw[e];exact .inr ⟨fun l r e=>(by cases e),.inl ⟨wn,.inl rfl⟩⟩
 . by_cases e:id=D.aB+1
   . exact absurd e.symm (h3 s (fU (D.aB+1) az (ai (D.word 0)+1)) (by rw[hx,aV rfl]))
   . exact hst id (by omega) (h.dd id h1 (by omega) (fun q u hu=>h3 q u (by rw[hx,aR (hne hu)];exact hu)))
 . rw[hpl',wo id (by omega)]
   exact h.ub id (by omega) h2
 . rw[hla] at hi
   rcases hal hu with ⟨e,g⟩|⟨rfl,rfl⟩
   . have:=(h.ip q u g).1;omega
   . have:D.aB+1=0:=hi
     omega
 . rw[hko] at Z
   rcases hal hu with ⟨e,g⟩|⟨rfl,rfl⟩
   . exact (h.kk q u k g Z).imp (fun x=>x) (fun x=>x.mono (hbn u) PM rfl rfl rfl)
   . have e:D.gQ q=none:=by unfold St.gQ;rw[hc];rfl
     rw[e] at Z;cases Z
 . rw[hko] at Z
   rcases hal hu with ⟨e,g⟩|⟨rfl,rfl⟩
   . exact h.UZ q u g Z
   . rfl
 . rcases hal hu with ⟨e,g⟩|⟨rfl,rfl⟩
   . exact⟨(h.bo q u g).1,fun b hb=>hbn u b ((h.bo q u g).2 b hb)⟩
   . exact⟨List.nodup_nil,fun b hb=>by cases hb⟩
end
section
variable {N L n s q cq d kd:Nat} {D τ υ aH aD dU:St} {t t0 t2 u u2:bL} {c c2:dN} {r:oZ} {k:K} {ok:Option K} {o:En.Op} {P Q:Nat->Prop}
def U1 (D aD:St) (t t2:bL) (w0:Nat) (ok:Option K):Prop:=
 (aD.aT=D.aT∧w0=ai (D.word 0)∧t2.aA=t.aA)∨(∃ e,aD.aT=D.aT++[e]∧(e.kind=4∨e.kind=5∨e.kind=6)∧w0=ai (D.word 0)∧t2.aA=t.aA)∨
 (t.aA=0∧t2.aA=w0∧w0=ai (D.word 0)+1∧aD.aT=D.aT++[{kind:=3,t:=t.id,n:=w0}])
theorem Stp.AO (p:Stp N L n s D aH kd r t c k aD ok t2 c2) (hw:WF N L n D) (h:∀ w now,k≠.turn w now) (hl:∀ w now,k=.ed w now->True):aH.word 0=D.word 0:=by
 cases e:wr (D.aK s {c with waits:=false}) s k with
 |none=>exact p.su e 0
 |some jv=>
  obtain⟨j,v⟩:=jv;refine (p.jI e 0).1 ?_;have hpl:∀ id,(D.aK s {c with waits:=false}).place id=73+N*3+id:=fun id=>hw.sh.place id
  by_cases hA:PK k=true
  . have:=R4 p.Cv hA p.m.et p.m.ec e (ED p.m.op)
    omega
  . cases k with
    |ed w now=>
     simp only[wr] at e
     split at e
     . obtain⟨rfl,-⟩:=iQ _ _ _ _ ▸ zj e
       rw[hpl];omega
     . cases e
    |turn w now=>exact absurd rfl (h w now)
    |dR=>
     simp only[wr] at e
     split at e
     . obtain⟨rfl,-⟩:=iQ _ _ _ _ ▸ zj e
       rw[hpl];omega
     . cases e
    |cZ=>
     obtain⟨rfl,-⟩:=iQ _ _ _ _ ▸ zj e;rw[hpl];omega
    |abort x y=>
     obtain⟨rfl,-⟩:=iQ _ _ _ _ ▸ zj e;rw[hpl];omega
    |turns l r=>
     cases l with
     |nil=>
      obtain⟨rfl,-⟩:=iQ _ _ _ _ ▸ zj e;omega
     |cons x l=>
      have:=(p.Cv.2.2 x nK).2;simp only[wr] at e
      split at e
      . obtain⟨rfl,-⟩:=iQ _ _ _ _ ▸ zj e
        omega
      . cases e
    |_=>exact absurd rfl hA
theorem TI.IQ (h:TI D) (hw:WF N L n D) (p:Stp N L n s D aH kd r t c k aD ok t2 c2):TI aH∧U1 D aD t t2 (ai (aH.word 0)) ok∧t2.id=t.id∧t2.aJ=t.aJ:=by
 by_cases hA:PK k=true
 . obtain⟨h1,h2,h3,_⟩:=h.MH hw p hA
   have h0:=p.AO hw (by rintro w now rfl;cases hA) (fun _ _ _=>trivial);refine⟨h1,?_,h2.id,h2.bg⟩;rw[h0]
   rcases h3 with ⟨_,h3⟩|⟨b,_,_,_,h3⟩
   . exact .inl ⟨h3,rfl,h2.en⟩
   . exact .inr (.inl ⟨_,h3,.inl rfl,rfl,h2.en⟩)
 . cases k with
   |ed w now=>
    obtain⟨h1,rfl,h3⟩:=h.yD hw p;have h0:=p.AO hw (by intro a b e;cases e) (fun _ _ _=>trivial);exact⟨h1,.inl ⟨h3,by rw[h0],rfl⟩,rfl,rfl⟩
   |turn w now=>
    obtain⟨h1,⟨_,rfl,h3,h4,_⟩|⟨_,rfl,h3,h4,_⟩⟩:=h.AL hw p
    . exact⟨h1,.inl ⟨h3,by rw[h4],rfl⟩,rfl,rfl⟩
    . have yS:KT (rJ D t) (mH D) t (.turn w now):=by
       rcases h.kk s t _ p.tx p.zq with ⟨l,r,e⟩|hx
       . cases e
       . exact hx
      exact⟨h1,.inr (.inr ⟨yS.1,h4.symm,h4,by rw[h4];exact h3⟩),rfl,rfl⟩
   |dR=>
    obtain⟨h1,rfl,h3⟩:=h.yE hw p;have h0:=p.AO hw (by intro a b e;cases e) (fun _ _ _=>trivial);exact⟨h1,.inl ⟨h3,by rw[h0],rfl⟩,rfl,rfl⟩
   |cZ=>
    obtain⟨h1,rfl,h3,_⟩:=h.og hw p;have h0:=p.AO hw (by intro a b e;cases e) (fun _ _ _=>trivial);refine⟨h1,?_,rfl,rfl⟩;rw[h0]
    split at h3
    . exact .inl ⟨h3,rfl,rfl⟩
    . exact .inr (.inl ⟨_,h3,.inr (.inl rfl),rfl,rfl⟩)
   |abort e rs=>
    obtain⟨h1,rfl,h3,_⟩:=h.pV hw p;have h0:=p.AO hw (by intro a b e;cases e) (fun _ _ _=>trivial);refine⟨h1,?_,rfl,rfl⟩;rw[h0]
    split at h3
    . exact .inl ⟨h3,rfl,rfl⟩
    . exact .inr (.inl ⟨_,h3,.inr (.inr rfl),rfl,rfl⟩)
   |turns l r=>
    obtain⟨h1,rfl,h3,_⟩:=h.pW hw p;have h0:=p.AO hw (by intro a b e;cases e) (fun _ _ _=>trivial);exact⟨h1,.inl ⟨h3,by rw[h0],rfl⟩,rfl,rfl⟩
   |_=>exact absurd rfl hA
/- The tale's times. -/
def om (a:Nat×List Nat) (e:Ev):Option (Nat×List Nat):=
 if e.kind=1 then (if e.n=a.1+1∧1<=e.t∧e.t<=2000 then some (a.1+1,e.t::a.2) else none)
 else if e.kind=3 then (if e.n=a.1+1∧1<=e.t∧e.t<=2000∧e.t∈a.2 then some (a.1+1,a.2) else none)
 else some a
def wC:List Ev->Nat×List Nat->Option (Nat×List Nat)
 |[],a=>some a
 |e::l,a=>match om a e with|some b=>wC l b|none=>none
theorem yH (l:List Ev) (e:Ev):∀ (a:Nat×List Nat),wC (l++[e]) a=match wC l a with|some b=>om b e|none=>none:=by
 induction l with
 |nil=>
  intro a;show (match om a e with|some b=>wC [] b|none=>none)=om a e
  cases om a e<;>rfl
 |cons x l ih=>
  intro a;have e1:wC (x::l++[e]) a=match om a x with|some b=>wC (l++[e]) b|none=>none:=rfl
  have e2:wC (x::l) a=match om a x with|some b=>wC l b|none=>none:=rfl
  rw[e1,e2]
  cases h:om a x with
  |none=>rfl
  |some b=>exact ih b
def TT (D:St):Prop:=∃ bs,wC D.aT (0,[])=some (ai (D.word 0),bs)∧∀ s t,D.aj.getD s none=some t->t.id∈bs
theorem AP {l:List Ev} {e:Ev} {a b:Nat×List Nat} (h:wC l a=some b) (h1:e.kind≠1) (h3:e.kind≠3):wC (l++[e]) a=some b:=by
 rw[yH,h];show om b e=some b;unfold om;rw[aR h1,aR h3]
theorem TT.step (h:TT D) (hi:TI D) (hw:WF N L n D) (p:Stp N L n s D aH kd r t c k aD ok t2 c2):TT aH:=by
 obtain⟨bs,h1,h2⟩:=h;obtain⟨g1,g2,g3,g4⟩:=hi.IQ hw p;have hid:=hi.ip s t p.tx;have hmd:=hw.sh.md;have hal:∀ q u,aH.aj.getD q none=some u->u.id∈bs:=by
  intro q u hu
  by_cases e:q=s
  . subst e
    cases ok with
    |some k'=>
     rw[(p.go k' rfl).2.2.2.1] at hu;obtain rfl:=zj hu;rw[g3];exact h2 q t p.tx
    |none=>
     rcases (p.no rfl).2.2.2 with ⟨_,g,_⟩|⟨_,g,_⟩
     . rw[g] at hu
       obtain rfl:=zj hu;rw[g3];exact h2 q t p.tx
     . rw[g] at hu;cases hu
  . rw[p.ox q e] at hu;exact h2 q u hu
 have hmid:wC aD.aT (0,[])=some (ai (aH.word 0),bs):=by
  rcases g2 with ⟨e1,e2,_⟩|⟨e,e1,e2,e3,_⟩|⟨_,_,e2,e3⟩
  . rw[e1,e2];exact h1
  . rw[e1,e3];exact AP h1 (by omega) (by omega)
  . rw[e3,yH,h1]
    show om _ _=_;unfold om;rw[aR (by show ¬ (3=1);omega),aV rfl,aV ⟨e2,hid.1,by show t.id<=2000;omega,h2 s t p.tx⟩,e2]
 refine⟨bs,?_,hal⟩
 cases ok with
 |some k'=>rw[(p.go k' rfl).2.2.2.2];exact hmid
 |none=>
  rcases (p.no rfl).2.2.2 with ⟨_,_,g⟩|⟨_,_,g⟩
  . rw[g];exact AP hmid (by show ¬ (2=1);omega) (by show ¬ (2=3);omega)
  . rw[g];exact hmid
theorem TT.mf (h:TT D) (hi:TI D) (hw:WF N L n D) (hs:s<8) (his:jh D s o=some aH):TT aH:=by
 obtain⟨t,k,dU,t2,c2,p⟩:=hw.GN hs his;obtain⟨bs,h1,h2⟩:=h;obtain⟨g1,g2,g3⟩:=hi.mf hw p;have f1:=(EE o t).1;refine⟨bs,by rw[g3,p.ws.1.word];exact h1,fun q u hu=>?_⟩
 by_cases e:q=s
 . subst e
   rw[p.tt] at hu;obtain rfl:=zj hu;rw[g2.id,f1];exact h2 q t p.tx
 . rw[p.ox q e] at hu;exact h2 q u hu
theorem TI.aJ (h:TI D) (hT:TT D) (hw:WF N L n D) (hs:s<8) {az id:Nat} (hb:jP D s az=some (aH,id)):TI aH∧TT aH:=by
 unfold jP at hb
 split at hb
 . rename_i hc
   obtain⟨-,-,ht,hcl,hmd,-,qb,-⟩:=hc;have ht':D.aj.getD s none=none:=by simpa using ht
   have hc':D.calls.getD s none=none:=by simpa using hcl
   have main:∀ aD:St,TI aD->Sh N L n aD->aD.aB=D.aB->aD.aj=D.aj->aD.calls=D.calls->aD.word 0=D.word 0->aD.aF=D.aF->aD.aT=D.aT->TI (Em.bM D s az aD)∧TT (Em.bM D s az aD):=by
    intro aD h2 hS e1 e2 e3 e4 e5 e6;have e:Em.bM D s az aD=Em.bM aD s az aD:=by
     unfold Em.bM;rw[e1,e4];have:aD.place (D.aB+1)=D.place (D.aB+1):=by unfold St.place;rw[e5]
     rw[this]
    have ZX:=h2.bM (az:=az) (by rw[e1];exact hmd) hs hS (by rw[e2];exact ht') (by rw[e3];exact hc') (by rw[e4];exact qb);rw[e];refine⟨ZX,?_⟩;obtain⟨bs,g1,g2⟩:=hT;have hx:∀ q,(Em.bM aD s az aD).aj.getD q none=if q=s then some (fU (aD.aB+1) az (ai (aD.word 0)+1)) else aD.aj.getD q none:=by
     intro q;show (((({aD with aB:=aD.aB+1}:St).cB 0 (aD.word 0) (aW (ai (aD.word 0)+1) 0)).aj).set s _).getD q none=_;rw[(nJ _ _ _ _).1];exact aS _ _ _ _ (by show s<aD.aj.length;rw[hS.t8];exact hs)
    have ZY:(Em.bM aD s az aD).aT=D.aT++[{kind:=1,t:=aD.aB+1,n:=ai (aD.word 0)+1,op:=⟨0,0,0,az⟩}]:=by
     show (({aD with aB:=aD.aB+1}:St).cB 0 (aD.word 0) (aW (ai (aD.word 0)+1) 0)).aT++_=_;rw[(nJ _ _ _ _).2.1];show aD.aT++_=_;rw[e6]
    have hw0:ai ((Em.bM aD s az aD).word 0)=ai (aD.word 0)+1:=by
     have hwd:(Em.bM aD s az aD).words=((aD.words.set 0 (aW (ai (aD.word 0)+1) 0)).set (aD.place (aD.aB+1)) (pack 1 0)).set (1+s) (ai (aD.word 0)+1):=by
      show (((({aD with aB:=aD.aB+1}:St).cB 0 (aD.word 0) (aW (ai (aD.word 0)+1) 0)).words.set (aD.place (aD.aB+1)) (pack 1 0)).set (1+s) (ai (aD.word 0)+1))=_;rw[fJ,aV (show ({aD with aB:=aD.aB+1}:St).word 0=aD.word 0 from rfl)]
     have:(Em.bM aD s az aD).word 0=aW (ai (aD.word 0)+1) 0:=by
      show (Em.bM aD s az aD).words.getD 0 0=_;rw[hwd,gP,aR (by omega),gP,aR (by rw[hS.place];omega),gP,aV ⟨rfl,by rw[hS.nw];omega⟩]
     rw[this];unfold ai aW;omega
    refine⟨(aD.aB+1)::bs,?_,fun q u hu=>?_⟩
    . rw[ZY,yH,g1,hw0,<-e4]
      show om _ _=_;unfold om;rw[aV rfl,aV ⟨rfl,by show 1<=aD.aB+1;omega,by show aD.aB+1<=2000;omega⟩]
    . rw[hx] at hu
      by_cases e:q=s
      . rw[aV e] at hu
        obtain rfl:=zj hu;exact nK
      . rw[aR e,e2] at hu
        exact qg _ (g2 q u hu)
   split at hb
   . obtain⟨rfl,-⟩:=iQ _ _ _ _ ▸ zj hb
     exact main D.tick h.tick hw.sh.tick rfl rfl rfl rfl rfl rfl
   . rename_i hl0
     split at hb
     . rename_i hl2
       obtain⟨rfl,-⟩:=iQ _ _ _ _ ▸ zj hb;have hS:Sh N L n (D.tick.dx (D.word 0)):=by
        unfold St.dx;rw[hw.sh.tick.place];exact hw.sh.tick.cB (oO (qU (by omega) (gy ((hw.sh.wd 0).ck rfl).1 hw.sh.l1)))
       have hh:=h.tick.dx (hw.tick) (w:=D.word 0) hl0 hl2 h.ck.2.2;obtain⟨f1,f2,f3⟩:=Ch D.tick (D.word 0);refine main _ hh hS ?_ f1 f3 ?_ ?_ f2
       . unfold St.dx St.cB;split<;>rfl
       . unfold St.dx
         rw[hw.sh.tick.place];show ((D.tick.cB _ _ _).words).getD 0 0=_;rw[fJ]
         split
         . rw[gP,aR (by omega)];rfl
         . rfl
       . unfold St.dx St.cB;split<;>rfl
     . cases hb
 . cases hb
theorem Ci (h:WF N L n D) {x:S} (hx:Gy N x) (i:Nat) (hi:i<9∨73+N*3<=i):(D.aG x).1.word i=D.word i:=by
 cases x with
 |cut F ak G next=>
  obtain⟨h1,h2,h3,h4⟩:=hx;simp only[St.aG]
  split
  . rename_i h0
    have:=(h2.of h0).ag;show (D.put (af ak 2) next).word i=_;rw[bZ,aR (by unfold af;omega)]
  . split
    . show (D.put (9+F) next).word i=_
      rw[bZ,aR (by omega)]
    . rfl
 |_=>rfl
theorem vz (h:WF N L n D) (i:Nat) (hi:i<9∨73+N*3<=i):D.cz.1.word i=D.word i:=by
 have hgo:(St.cz.go D).1.word i=D.word i:=by
  have hx:Gy N (D.sw.getD .now):=by
   cases e:D.sw with
   |none=>exact trivial
   |some x=>exact h.sx.so x e
  have:=Ci h hx i hi;unfold St.cz.go;exact this
 unfold St.cz
 split
 . split
   . show (D.give _).word i=_
     unfold St.word;rw[lu]
   . exact hgo
 . exact hgo
theorem yI (D:St) (x:S):(D.aG x).1.aF=D.aF:=by
 cases x with
 |cut F ak G next=>
  simp only[St.aG]
  split
  . rfl
  . split<;>rfl
 |_=>rfl
theorem EF (D:St):D.cz.1.aF=D.aF:=by
 have hgo:(St.cz.go D).1.aF=D.aF:=by
  unfold St.cz.go;exact yI D _
 unfold St.cz
 split
 . split
   . exact yw D _
   . exact hgo
 . exact hgo
theorem TI.cz (h:TI D) (hT:TT D) (hw:WF N L n D):TI D.cz.1∧TT D.cz.1:=by
 obtain⟨-,-,-,-,-,-,e1,e2,e3,e4⟩:=hw.cz;refine⟨h.quiet e1 (EF D) e2 e3 (vz hw 0 (by omega)) (fun id=>vz hw _ (by rw[hw.sh.place];omega)),?_⟩;obtain⟨bs,h1,h2⟩:=hT;exact⟨bs,by rw[e4,vz hw 0 (by omega)];exact h1,fun q u hu=>by rw[e2] at hu;exact h2 q u hu⟩
theorem EG (N L q:Nat):(new N L).aj.getD q none=none:=by
 show (List.replicate 8 (none:Option bL)).getD q none=none;rw[mM]
 by_cases h:q<8
 . rw[List.getElem?_replicate,aV h];rfl
 . rw[List.getElem?_replicate,aR h];rfl
theorem yJ (N L i:Nat):(new N L).word i=0:=by
 show (List.replicate _ 0).getD i 0=0;rw[mM,List.getElem?_replicate]
 split<;>rfl
theorem TI.new (N L:Nat):TI (new N L)∧TT (new N L):=by
 have hn:∀ {q u},(En.new N L).aj.getD q none=some u->False:=fun {q u} h=>by rw[EG] at h;cases h
 refine⟨⟨fun _ _ _ _ a=>(hn a).elim,fun _ _ a=>(hn a).elim,fun _ _ a=>(hn a).elim,fun _ _ _ _ a=>(hn a).elim,fun _ _ a=>(hn a).elim,fun id h1 h2=>?_,fun id _ _=>yJ N L _,⟨?_,zr _,fun _ _ a=>(hn a).elim⟩,fun _ _ _ a=>(hn a).elim,fun _ _ a=>(hn a).elim,fun _ _ a=>(hn a).elim⟩,[],?_,fun _ _ a=>(hn a).elim⟩
 . have:(En.new N L).aB=0:=rfl
   omega
 . rw[yJ];exact zz _
 . rw[yJ];rfl
end
def Cj (D:St):Prop:=∀ s t,D.aj.getD s none=some t->match D.gQ s with|some k=>TL t (fun F=>pend F k)|none=>TL t (fun _=>0)
def ry (f:Nat->Nat):Nat:=f 0+f 1+f 2+f 3+f 4+f 5+f 6+f 7
def _root_.Go.Proofs.YthicolbbmjfkfaaGreat.En.St.GU (D:St) (N:Nat):Nat:=ry (D.Av N)
def _root_.Go.Proofs.YthicolbbmjfkfaaGreat.En.St.wD (D:St) (N s:Nat):Nat:=D.rem N s+D.GU N
section
variable {N L n s q cq d kd:Nat} {D τ υ aH aD dU:St} {t t0 t2 u u2:bL} {c c2:dN} {r:oZ} {k:K} {ok:Option K} {o:En.Op}
theorem mh (ht:D.aj.getD s none=some t) (hc:D.calls.getD s none=some c) (Z:c.k=some k):D.rem N s=D.dw N t c k∧D.Av N s=D.gI N c k∧D.late s=late k:=by
 unfold St.rem St.Av St.late;rw[ht,hc];simp only[Z];exact⟨trivial,trivial,trivial⟩
theorem qH (ht:D.aj.getD s none=some t) (hc:D.calls.getD s none=none):D.rem N s=11+D.aM t.reads∧D.Av N s=6*N+1613∧D.late s=false:=by
 unfold St.rem St.Av St.late;rw[ht,hc];exact⟨rfl,rfl,rfl⟩
theorem yK (ht:D.aj.getD s none=none) (hc:D.calls.getD s none=none):D.rem N s=0∧D.Av N s=0∧D.late s=false:=by
 unfold St.rem St.Av St.late;rw[ht,hc];exact⟨rfl,rfl,rfl⟩
theorem GV (c:dN) (k:K) (N:Nat) (t:bL) (x:Bool):D.dw N t {c with waits:=x} k=D.dw N t c k∧D.gI N {c with waits:=x} k=D.gI N c k:=by
 constructor
 . cases k<;>first|rfl|(unfold St.dw St.dF;rfl)
 . cases k<;>rfl
theorem R6 (c:dN) (k:K) (N:Nat) (t:bL) (x:Option K):D.dw N t {c with k:=x} k=D.dw N t c k∧D.gI N {c with k:=x} k=D.gI N c k:=by
 constructor
 . cases k<;>first|rfl|(unfold St.dw St.dF;rfl)
 . cases k<;>rfl
theorem AQ {α:Type} (l:List α) (f:α->List zy) (m:Nat) (h:∀ x∈l,(f x).length<=m):(l.flatMap f).length<=m*l.length:=by
 induction l with
 |nil=>exact zz _
 |cons a l ih=>
  rw[List.flatMap_cons,jR,List.length_cons,Nat.mul_add];have h1:=h a nK;have h2:=ih (fun x hx=>h x (qg _ hx));omega
theorem TL.GX {p:Nat->Nat} (h:TL t p):t.keys.length<=64:=mZ 64 t.keys h.kd (fun i hi=>h.kl i hi)
theorem yL (D:St) {p:Nat->Nat} (h:TL t p):(eY D t).length<=192:=by
 have h1:=h.GX
 have h2 := AQ t.keys (fun F =>
   let x:=(t.cell F).getD default
   (if x.own≠0 then ⟨af x.own 0,0,t.aA⟩::(if x.there then [] else [⟨af x.own 1,0,t.aA⟩]) else [])
   ++(if x.old≠0 then [⟨af x.old 1,0,t.aA⟩] else [])) 3 (fun x _=>by
     simp only[jR]
     split<;>split<;>(try split)<;>simp)
 unfold eY;omega
theorem AR (D:St) {p:Nat->Nat} (h:TL t p):(fV D t).length<=64:=by
 have h1:=h.GX
 have h2 := AQ t.keys (fun F =>
   let x:=(t.cell F).getD default
   if x.old≠0 then [⟨af x.old 1,mine t,ever⟩] else []) 1 (fun x _=>by
     simp only
     split<;>simp)
 unfold fV;omega
theorem JZ (h:TI D) (hw:WF N L n D) (tl:Cj D) (p:Stp N L n s D aH kd r t c k aD ok t2 c2) (hl:late k=true):
 (∀ k',ok=some k'->late k'=true∧Cw.gI N k'+wt N (D.aK s {c with waits:=false}) s k<=Cw.gI N k∧TL t2 (fun F=>pend F k'))∧(ok=none->aH.aj.getD s none=none)∧wh (D.aK s {c with waits:=false}) s k=0∧wt N (D.aK s {c with waits:=false}) s k<=Cw.gI N k:=by
 have htl:=tl s t p.tx;rw[p.zq] at htl;have gD:TL t (fun _=>0):=htl.mono (fun _=>zz _)
 cases k with
 |wait i=>
  have hw0:wt N (D.aK s {c with waits:=false}) s (.wait i)=0:=by simp[wt,wa,wb,wp,wh]
  have e1:=p.run;simp only[St.run] at e1;have F:∀ k',ok=some k'->late k'=true∧Cw.gI N k'<=Cw.gI N (.wait i)∧(∀ F,pend F k'=0):=by
   intro k' ek;subst ek
   split at e1
   . obtain⟨_,e2⟩:=iQ _ _ _ _ ▸ e1
     obtain rfl:=zj e2;unfold jJ
     split<;>exact⟨rfl,zr _,fun _=>rfl⟩
   . split at e1
     . obtain⟨_,e2⟩:=iQ _ _ _ _ ▸ e1
       obtain rfl:=zj e2;exact⟨rfl,zr _,fun _=>rfl⟩
     . obtain⟨_,e2⟩:=iQ _ _ _ _ ▸ e1
       obtain rfl:=zj e2;exact⟨rfl,zr _,fun _=>rfl⟩
  have ht2:t2=t:=by
   apply p.tt
   split at e1
   . obtain⟨e1,_⟩:=iQ _ _ _ _ ▸ e1
     rw[<-e1];exact p.tx
   . split at e1
     . obtain⟨e1,_⟩:=iQ _ _ _ _ ▸ e1
       rw[<-e1];exact p.tx
     . obtain⟨e1,_⟩:=iQ _ _ _ _ ▸ e1
       rw[<-e1];exact p.tx
  refine⟨fun k' ek=>⟨(F k' ek).1,by rw[hw0];exact (F k' ek).2.1,by rw[ht2];exact gD.mono (fun q=>Nat.le_of_eq ((F k' ek).2.2 q))⟩,fun e=>?_,rfl,by rw[hw0];exact zz _⟩;subst e
  split at e1
  . cases (iQ _ _ _ _ ▸ e1).2
  . split at e1<;>cases (iQ _ _ _ _ ▸ e1).2
 |cZ=>
  obtain⟨_,rfl,_,e4⟩:=h.og hw p;have hw0:wt N (D.aK s {c with waits:=false}) s .cZ=0:=by simp[wt,wa,wb,wp,wh]
  refine⟨fun k' ek=>?_,fun e=>(by rw[e4] at e;cases e),rfl,by rw[hw0];exact zz _⟩;rw[e4] at ek;obtain rfl:=zj ek;have hlen:=yL D gD;refine⟨rfl,?_,TL.mono (p:=fun _=>0) ⟨gD.mul,gD.kd,gD.kl⟩ (fun q=>by show (if 192<_ then 13 else 0)<=0;rw[aR (by omega)];exact zr _)⟩;rw[hw0];show 8*(eY D t).length+0<=6*N+1610;omega
 |abort e rs=>
  obtain⟨_,rfl,_,e4⟩:=h.pV hw p;have hw0:wt N (D.aK s {c with waits:=false}) s (.abort e rs)=6*N+10:=by simp[wt,wa,wb,wp,wh]
  refine⟨fun k' ek=>?_,fun e=>(by rw[e4] at e;cases e),rfl,by rw[hw0];show _<=6*N+1610;omega⟩;rw[e4] at ek;obtain rfl:=zj ek;have hlen:=AR D gD;refine⟨rfl,?_,TL.mono (p:=fun _=>0) ⟨gD.mul,gD.kd,gD.kl⟩ (fun q=>by show (if 192<_ then 13 else 0)<=0;rw[aR (by omega)];exact zr _)⟩;rw[hw0];show 8*(fV D t).length+(6*N+10)<=6*N+1610;omega
 |turns l r0=>
  obtain⟨_,rfl,_,e4,e5⟩:=h.pW hw p
  cases l with
  |nil=>
   obtain⟨e5,e6⟩:=e5 rfl;have hw0:wt N (D.aK s {c with waits:=false}) s (.turns [] r0)=0:=by simp[wt,wa,wb,wp,wh]
   refine⟨fun k' ek=>(by rw[e5] at ek;cases ek),fun _=>?_,rfl,by rw[hw0];exact zz _⟩
   rcases (p.no e5).2.2.2 with ⟨g,_⟩|⟨_,g,_⟩
   . rw[e6] at g
     have:=p.Cv.1;omega
   . exact g
  |cons x l=>
   have e4:=e4 x l rfl;have hw0:wt N (D.aK s {c with waits:=false}) s (.turns (x::l) r0)=8:=by simp[wt,wa,wb,wp,wh]
   refine⟨fun k' ek=>?_,fun e=>(by rw[e4] at e;cases e),rfl,by rw[hw0];show 8<=8*(l.length+1);omega⟩;rw[e4] at ek;obtain rfl:=zj ek;refine⟨rfl,?_,htl.mono (fun q=>by show (if 192<l.length then 13 else 0)<=(if 192<l.length+1 then 13 else 0);split<;>split<;>omega)⟩;rw[hw0];show 8*l.length+8<=8*(l.length+1);omega
 |_=>cases hl
theorem J2 (hw:WF N L n D) (hcw:WC N D) (tl:Cj D) (p:Stp N L n s D aH kd r t c k aD ok t2 c2) (hq:q≠s):
 aH.rem N q<=D.rem N q+3*wa (D.aK s {c with waits:=false}) s k+8*wb (D.aK s {c with waits:=false}) s k+(6*N+10)*wp (D.aK s {c with waits:=false}) s k+(3*N+120)*wh (D.aK s {c with waits:=false}) s k∧
 aH.Av N q<=D.Av N q+8*wh (D.aK s {c with waits:=false}) s k∧aH.late q=D.late q:=by
 obtain⟨C,O,hcs,_,hpv⟩:=hcw;have q0:Qt N D (D.aK s {c with waits:=false}):=Qt.aK D s _;have hE:=Mw (hcs.quiet q0) p.m p.Cv ((hpv s c k p.ca p.ck).same q0 p.Cv.lk);rw[p.run] at hE;have hws:Ws aD aH:=by
  obtain⟨l,cs,ts,YC,e⟩:=p.e1;rw[e];exact⟨rfl,rfl⟩
 have hw1:wh (D.aK s {c with waits:=false}) s k<=1:=by
  cases k<;>simp only[wh]<;>first|omega|(split<;>omega)
 have ML:aH.late q=D.late q:=by unfold St.late;rw[p.oc q hq]
 generalize wa (D.aK s {c with waits:=false}) s k=a at hE ⊢;generalize wb (D.aK s {c with waits:=false}) s k=b at hE ⊢;generalize wp (D.aK s {c with waits:=false}) s k=pp at hE ⊢;generalize wh (D.aK s {c with waits:=false}) s k=hh at hE hw1 ⊢;have hx1:=p.ox q hq;have hc1:=p.oc q hq;have hsc:Ws D (D.aK s {c with waits:=false}):=⟨rfl,rfl⟩
 have hE2:Ef N D aD O a b pp hh c.op.F:=⟨hE.sl,hE.ck,hE.en,hE.st,hE.hd,fun F Z=>by have:=hE.dh F Z;rw[hsc.Dh] at this;exact this,hE.nx⟩
 cases ht:D.aj.getD q none with
 |none=>
  have hcn:D.calls.getD q none=none:=by
   cases e:D.calls.getD q none with
   |none=>rfl
   |some c'=>obtain⟨t',ht',_⟩:=hw.cx q c' e;rw[ht] at ht';cases ht'
  rw[ht] at hx1;rw[hcn] at hc1;obtain⟨e1,e2,e3⟩:=yK (N:=N) hx1 hc1;rw[e1,e2];exact⟨zz _,zz _,ML⟩
 |some u=>
  rw[ht] at hx1;have hT:=hw.tx q u ht;have htl:=tl q u ht;have gD:TL u (fun _=>0):=by
   split at htl
   . exact htl.mono (fun _=>zz _)
   . exact htl
  have hC:cnt u c.op.F<=12:=by have:=gD.mul c.op.F;have:=hT.op;omega
  cases hc:D.calls.getD q none with
  |none=>
   rw[hc] at hc1;obtain⟨e1,e2,e3⟩:=qH (N:=N) hx1 hc1;obtain⟨f1,f2,f3⟩:=qH (N:=N) ht hc;rw[e1,e2,f1,f2];have hJ:=hE2.iU hw1 hT.rd hC;rw[hws.aM];have:(3*N+120)*hh=3*N*hh+120*hh:=Nat.add_mul _ _ _;exact⟨by omega,by omega,ML⟩
  |some c'=>
   rw[hc] at hc1;obtain⟨u',hu',hcx⟩:=hw.cx q c' hc;rw[ht] at hu';obtain rfl:=zj hu';obtain⟨k',hk',hkk⟩:=hcx.k;obtain⟨e1,e2,e3⟩:=mh (N:=N) hx1 hc1 hk';obtain⟨f1,f2,f3⟩:=mh (N:=N) ht hc hk';rw[e1,e2,f1,f2,hws.dw,hws.gI];have g1:=hE2.dw hw1 hw.sh.n1 hT hkk (hpv q c' k' hc hk') hC;have g2:=hE2.gI hkk;exact⟨by omega,g2,ML⟩
theorem PN {f g:Nat->Nat} {d:Nat} (hs:s<8) (h:∀ q,q≠s->g q<=f q+d):ry g+f s<=ry f+g s+7*d:=by
 have h0:=h 0;have h1:=h 1;have h2:=h 2;have h3:=h 3;have h4:=h 4;have h5:=h 5;have h6:=h 6;have h7:=h 7;unfold ry
 rcases (by omega:s=0∨s=1∨s=2∨s=3∨s=4∨s=5∨s=6∨s=7) with rfl|rfl|rfl|rfl|rfl|rfl|rfl|rfl<;>omega
theorem EH (h:TI D) (hw:WF N L n D) (hcw:WC N D) (tl:Cj D) (hs:s<8) (p:Stp N L n s D aH kd r t c k aD ok t2 c2):
 (∀ q,q≠s->aH.wD N q<=D.wD N q)∧(if late k then aH.wD N s<=D.wD N s∧(aH.aj.getD s none=none∨aH.late s=true) else aH.wD N s+1<=D.wD N s)∧Cj aH:=by
 have hws:Ws aD aH:=by
  obtain⟨l,cs,ts,YC,e⟩:=p.e1;rw[e];exact⟨rfl,rfl⟩
 have htl:=tl s t p.tx;rw[p.zq] at htl;have gD:TL t (fun _=>0):=htl.mono (fun _=>zz _);obtain⟨f1,f2,f3⟩:=mh (N:=N) p.tx p.ca p.ck;have hoth:=fun q hq=>J2 (q:=q) hw hcw tl p hq
 have hsum:=PN (f:=D.Av N) (g:=aH.Av N) (d:=8*wh (D.aK s {c with waits:=false}) s k) hs (fun q hq=>(hoth q hq).2.1);have PO:∀ q u,q≠s->aH.aj.getD q none=some u->match aH.gQ q with|some k=>TL u (fun F=>pend F k)|none=>TL u (fun _=>0):=by
  intro q u hq hu;rw[p.ox q hq] at hu;have:aH.gQ q=D.gQ q:=by unfold St.gQ;rw[p.oc q hq]
  rw[this];exact tl q u hu
 have hwt:wt N (D.aK s {c with waits:=false}) s k=3*wa (D.aK s {c with waits:=false}) s k+8*wb (D.aK s {c with waits:=false}) s k+(6*N+10)*wp (D.aK s {c with waits:=false}) s k+(3*N+176)*wh (D.aK s {c with waits:=false}) s k:=rfl;have hmul:(3*N+176)*wh (D.aK s {c with waits:=false}) s k=(3*N+120)*wh (D.aK s {c with waits:=false}) s k+56*wh (D.aK s {c with waits:=false}) s k:=by
  rw[<-Nat.add_mul]
 have hb:D.Av N s=D.gI N c k:=f2;have main:∀ B be,aH.Av N s<=B->B+wt N (D.aK s {c with waits:=false}) s k<=D.gI N c k->aH.rem N s<=be->(∀ q,q≠s->aH.wD N q<=D.wD N q)∧aH.wD N s+D.rem N s<=D.wD N s+be:=by
  intro B be h1 h2 h3;rw[hwt,hmul] at h2;unfold St.wD St.GU;refine⟨fun q hq=>?_,by omega⟩;have:=(hoth q hq).1;omega
 by_cases hl:late k=true
 . rw[aV hl]
   obtain⟨g1,g2,g3,g4⟩:=JZ h hw tl p hl;have hbk:Cw.gI N k<=D.gI N c k:=Nat.le_add_right _ _
   cases ok with
   |none=>
    have yF:=g2 rfl;obtain⟨e1,e2,e3⟩:=yK (N:=N) yF (p.no rfl).2.2.1;obtain⟨m1,m2⟩:=main 0 0 (by omega) (by omega) (by omega);refine⟨m1,⟨by omega,.inl yF⟩,fun q u hu=>?_⟩
    by_cases e:q=s
    . subst e;rw[yF] at hu;cases hu
    . exact PO q u e hu
   |some k'=>
    obtain⟨a1,a2,a3⟩:=g1 k' rfl;obtain⟨_,_,hc1,ht1,_⟩:=p.go k' rfl;obtain⟨e1,e2,e3⟩:=mh (N:=N) ht1 hc1 rfl;have e4:aH.gI N {c2 with k:=some k'} k'=Cw.gI N k':=by
     cases k'<;>first|rfl|cases a1
    have e5:aH.dw N t2 {c2 with k:=some k'} k'=0:=by
     cases k'<;>first|rfl|cases a1
    obtain⟨m1,m2⟩:=main (Cw.gI N k') 0 (by rw[e2,e4];exact zr _) (by omega) (by omega);refine⟨m1,⟨by omega,.inr (by rw[e3];exact a1)⟩,fun q u hu=>?_⟩
    by_cases e:q=s
    . subst e
      rw[ht1] at hu;obtain rfl:=zj hu;rw[p.kR rfl];exact a3
    . exact PO q u e hu
 . have hl':late k=false:=by simpa using hl
   rw[aR hl]
   by_cases hf:∃ r',k=.fin r'
   . obtain⟨r',rfl⟩:=hf
     have hok:ok=none:=by
      have e1:=p.run;simp only[St.run] at e1;exact (iQ _ _ _ _ ▸ e1).2.symm
     subst hok;obtain⟨_,hts,_⟩:=h.MH hw p rfl;have Xn:c2.r.over=0:=by
      have e1:=p.run;simp only[St.run] at e1;obtain⟨e1,_⟩:=iQ _ _ _ _ ▸ e1;obtain⟨d,m2⟩:=p.m2;rw[<-m2.ec,<-e1];unfold St.finish St.c St.aK;simp only;rw[aS _ _ _ _ (by show s<(D.calls.set s _).length;rw[rz,hw.sh.c8];exact p.m.s8),aV rfl];exact p.Cv.1
     have ht2:t2=t:=by
      apply p.tt;have e1:=p.run;simp only[St.run] at e1;obtain⟨e1,_⟩:=iQ _ _ _ _ ▸ e1;rw[<-e1];exact p.tx
     subst ht2;have ht1:aH.aj.getD s none=some t2:=by
      rcases (p.no rfl).2.2.2 with ⟨_,g,_⟩|⟨g,_⟩
      . exact g
      . exact absurd Xn g
     obtain⟨e1,e2,e3⟩:=qH (N:=N) ht1 (p.no rfl).2.2.1;have hsw:Ws D aH:=by
      have e1:=p.run;simp only[St.run] at e1;obtain⟨e1,_⟩:=iQ _ _ _ _ ▸ e1;refine Ws.trans ?_ hws;rw[<-e1];exact⟨rfl,rfl⟩
     have hw0:wt N (D.aK s {c with waits:=false}) s (.fin r')=0:=by simp[wt,wa,wb,wp,wh]
     have hbk:D.gI N c (.fin r')=6*N+1613:=rfl;have ZZ:D.dw N t2 c (.fin r')=12+D.aM t2.reads:=rfl;obtain⟨m1,m2⟩:=main (6*N+1613) (11+D.aM t2.reads) (by omega) (by omega) (by rw[e1,hsw.aM];exact zr _);refine⟨m1,by rw[f1,ZZ] at m2;omega,fun q u hu=>?_⟩
     by_cases e:q=s
     . subst e
       rw[ht1] at hu;obtain rfl:=zj hu;rw[p.JX rfl];exact gD
     . exact PO q u e hu
   . obtain⟨C,O,hcs,_,hpv⟩:=hcw
     have q0:Qt N D (D.aK s {c with waits:=false}):=Qt.aK D s _;obtain⟨b,B,h1,h2,h3⟩:=MB (hcs.quiet q0) p.m p.Cv ((hpv s c k p.ca p.ck).same q0 p.Cv.lk) htl hl' (fun r' e=>hf ⟨r',e⟩);rw[p.run] at h3;obtain⟨k',d,e0,_,t',c',m',g1,g2,g3⟩:=h3;subst e0;simp only at m' g1 g2 g3;obtain⟨d2,m2⟩:=p.m2;have et:t2=t':=zj (m2.tx.symm.trans m'.tx);have ec:c2=c':=zj (m2.ca.symm.trans m'.ca);subst et;subst ec;obtain⟨_,_,hc1,ht1,_⟩:=p.go k' rfl;obtain⟨e1,e2,e3⟩:=mh (N:=N) ht1 hc1 rfl;obtain⟨x1,x2⟩:=R6 (D:=aH) c2 k' N t2 (some k');obtain⟨y1,y2⟩:=GV (D:=D.aK s {c with waits:=false}) c k N t false;rw[y1] at h1;rw[y2] at h2;have hsc:Ws D (D.aK s {c with waits:=false}):=⟨rfl,rfl⟩
     have z1:(D.aK s {c with waits:=false}).dw N t c k=D.dw N t c k:=hsc.dw N t c k;have z2:(D.aK s {c with waits:=false}).gI N c k=D.gI N c k:=hsc.gI N c k;rw[z1] at h1;rw[z2] at h2;obtain⟨m1,m2⟩:=main B b (by rw[e2,x2,hws.gI];exact g2) h2 (by rw[e1,x1,hws.dw];exact g1);refine⟨m1,by rw[f1] at m2;omega,fun q u hu=>?_⟩
     by_cases e:q=s
     . subst e
       rw[ht1] at hu;obtain rfl:=zj hu;rw[p.kR rfl];exact g3
     . exact PO q u e hu
end
def IU (t:bL):Option K->Nat
 |none=>1
 |some .draw|some (.ed _ _)|some (.turn _ _)|some (.abort _ _)|some (.turns _ _)=>1
 |some _=>if t.aA=0 then 2 else 1
def _root_.Go.Proofs.YthicolbbmjfkfaaGreat.En.St.AU (D:St) (s:Nat):Nat:=
 match D.aj.getD s none with
 |none=>0
 |some t=>(2000 - t.aP.length)+(if t.aA=0 then 1 else 0)+(if t.over then 0 else 1)+IU t (D.gQ s)
def _root_.Go.Proofs.YthicolbbmjfkfaaGreat.En.St.GY (D:St):Nat:=D.aT.length+ry D.AU
section
variable {N L n s q cq d kd aa M:Nat} {D τ υ aH aD dU:St} {t t0 t2 u u2:bL} {c c2:dN} {r:oZ} {k:K} {ok:Option K} {o:En.Op}
theorem TI.aP (h:TI D) (hm:D.aB<=2000) (ht:D.aj.getD s none=some t):t.aP.length<=D.aB:=by
 obtain⟨h1,h2⟩:=h.bo s t ht
 have h3 := mZ (D.aB + 1) (0 :: t.aP) (by
   rw[List.nodup_cons]
   exact⟨fun hz=>by have:=(h2 0 hz).1;omega,h1⟩) (fun i hi=>by
   rcases List.mem_cons.1 hi with rfl|hi
   . omega
   . have:=(h2 i hi).2.1;omega)
 simp at h3;omega
theorem EJ {f g:Nat->Nat} (hs:s<8) (h:∀ q,q≠s->g q=f q):ry g+f s=ry f+g s:=by
 have h0:=h 0;have h1:=h 1;have h2:=h 2;have h3:=h 3;have h4:=h 4;have h5:=h 5;have h6:=h 6;have h7:=h 7;unfold ry
 rcases (by omega:s=0∨s=1∨s=2∨s=3∨s=4∨s=5∨s=6∨s=7) with rfl|rfl|rfl|rfl|rfl|rfl|rfl|rfl<;>omega
theorem sD (t:bL) (k:Option K):1<=IU t k∧IU t k<=2:=by
 unfold IU;split<;>(try split)<;>omega
theorem MM (h:TI D) (hw:WF N L n D) (hs:s<8) (p:Stp N L n s D aH kd r t c k aD ok t2 c2):aH.GY<=D.GY:=by
 have hoth:∀ q,q≠s->aH.AU q=D.AU q:=by
  intro q hq;have:aH.gQ q=D.gQ q:=by unfold St.gQ;rw[p.oc q hq]
  unfold St.AU;rw[p.ox q hq,this]
 have hsum:=EJ (s:=s) hs hoth;have hmd:=hw.sh.md;have hb:=h.aP hmd p.tx;have hg:D.AU s=(2000 - t.aP.length)+(if t.aA=0 then 1 else 0)+(if t.over then 0 else 1)+IU t (some k):=by
  unfold St.AU;rw[p.tx,p.zq]
 have Xo:=(h.IQ hw p).1;have main:∀ x,aD.aT.length+(2000 - t2.aP.length)+(if t2.aA=0 then 1 else 0)+(if t2.over then 0 else 1)<=D.aT.length+(2000 - t.aP.length)+(if t.aA=0 then 1 else 0)+(if t.over then 0 else 1)->
  (∀ k',ok=some k'->IU t2 (some k')<=IU t (some k))->(ok=none->aH.aj.getD s none=none∨IU t (some k)=2)->x=()->aH.GY<=D.GY:=by
  intro _ h1 h2 h3 _;unfold St.GY
  cases ok with
  |some k'=>
   obtain⟨_,_,hc1,ht1,htl⟩:=p.go k' rfl;have hg1:aH.AU s=(2000 - t2.aP.length)+(if t2.aA=0 then 1 else 0)+(if t2.over then 0 else 1)+IU t2 (some k'):=by
    unfold St.AU;rw[ht1,p.kR rfl]
   have:=h2 k' rfl;rw[htl];omega
  |none=>
   have hk0:=p.JX rfl
   rcases (p.no rfl).2.2.2 with ⟨_,ht1,htl⟩|⟨_,ht1,htl⟩
   . have hg1:aH.AU s=(2000 - t2.aP.length)+(if t2.aA=0 then 1 else 0)+(if t2.over then 0 else 1)+1:=by
      unfold St.AU;rw[ht1,hk0];rfl
     rcases h3 rfl with h3|h3
     . rw[ht1] at h3;cases h3
     . rw[htl,jR,List.length_singleton]
       omega
   . have hg1:aH.AU s=0:=by unfold St.AU;rw[ht1]
     rw[htl];omega
 have Xp:∀ (u:bL) (k':K),u.aA≠0->IU u (some k')=1:=by
  intro u k' hu;unfold IU
  split<;>first|rfl|rw[aR hu]
 by_cases hA:PK k=true
 . obtain⟨_,hts,htl,hal⟩:=h.MH hw p hA
   have hb2:=Xo.aP (by rw[p.aB];exact hmd) hal;rw[p.aB] at hb2;refine main () ?_ (fun k' ek=>?_) (fun e=>?_) rfl
   . rw[hts.en,hts.ov]
     rcases htl with ⟨e1,e2⟩|⟨b,_,_,e1,e2⟩
     . rw[e1,e2];exact zr _
     . rw[e1,jR,List.length_singleton] at hb2
       rw[e1,e2,jR,jR,List.length_singleton,List.length_singleton];omega
   . have h1:=sD t2 (some k');have h2:=sD t (some k)
     by_cases h0:t.aA=0
     . cases k with
       |draw=>
        have e1:=p.run;simp only[St.run] at e1;subst ek;have:IU t2 (some k')=1:=by
         split at e1
         . obtain⟨_,e2⟩:=iQ _ _ _ _ ▸ e1
           obtain rfl:=zj e2;rfl
         . split at e1
           . obtain⟨_,e2⟩:=iQ _ _ _ _ ▸ e1
             obtain rfl:=zj e2;rfl
           . obtain⟨_,e2⟩:=iQ _ _ _ _ ▸ e1
             obtain rfl:=zj e2;rfl
        omega
       |ed w now=>cases hA
       |turn w now=>cases hA
       |dR=>cases hA
       |cZ=>cases hA
       |abort e r=>cases hA
       |turns l r=>cases hA
       |_=>show IU t2 (some k')<=(if t.aA=0 then 2 else 1);rw[aV h0];exact h1.2
     . have:=Xp t2 k' (by rw[hts.en];exact h0)
       omega
   . obtain⟨r',rfl⟩:=yC hA (by rw[p.run];exact e)
     right;have yS:KT (rJ D t) (mH D) t (.fin r'):=by
      rcases h.kk s t _ p.tx p.zq with ⟨l,r,e⟩|hx
      . cases e
      . exact hx
     have:t.aA=0:=yS;simp only[IU,aV this]
 . cases k with
   |ed w now=>
    obtain⟨_,rfl,h3⟩:=h.yD hw p;have e1:=p.run;simp only[St.run] at e1;obtain⟨_,e2⟩:=iQ _ _ _ _ ▸ e1;refine main () (by rw[h3];exact zr _) (fun k' ek=>?_) (fun e=>by rw[e] at e2;cases e2) rfl;rw[ek] at e2;obtain rfl:=zj e2;exact zr _
   |turn w now=>
    obtain⟨_,⟨_,rfl,h3,_,e2⟩|⟨_,rfl,h3,_,e2⟩⟩:=h.AL hw p
    . refine main () (by rw[h3];exact zr _) (fun k' ek=>?_) (fun e=>by rw[e] at e2;cases e2) rfl
      rw[ek] at e2;obtain rfl:=zj e2;exact zr _
    . have yS:KT (rJ D t) (mH D) t (.turn w now):=by
       rcases h.kk s t _ p.tx p.zq with ⟨l,r,e⟩|hx
       . cases e
       . exact hx
      refine main () ?_ (fun k' ek=>?_) (fun e=>by rw[e] at e2;cases e2) rfl
      . rw[h3,jR,List.length_singleton,aV yS.1]
        show D.aT.length+1+(2000 - t.aP.length)+(if ai (D.word 0)+1=0 then 1 else 0)+(if t.over then 0 else 1)<=_;rw[aR (by omega)];omega
      . rw[Xp _ k' (by show ai (D.word 0)+1≠0;omega)]
        exact (sD t _).1
   |dR=>
    obtain⟨_,rfl,h3⟩:=h.yE hw p;have yS:KT (rJ D t2) (mH D) t2 .dR:=by
     rcases h.kk s t2 _ p.tx p.zq with ⟨l,r,e⟩|hx
     . cases e
     . exact hx
    have e1:=p.run;simp only[St.run] at e1;obtain⟨_,e2⟩:=iQ _ _ _ _ ▸ e1;refine main () (by rw[h3];exact zr _) (fun k' ek=>?_) (fun e=>by rw[e] at e2;cases e2) rfl;rw[Xp _ k' yS];exact (sD t2 _).1
   |cZ=>
    obtain⟨_,rfl,h3,e2⟩:=h.og hw p;refine main () ?_ (fun k' ek=>?_) (fun e=>by rw[e] at e2;cases e2) rfl
    . rw[h3]
      show _+(2000 - t.aP.length)+(if t.aA=0 then 1 else 0)+0<=_
      split
      . exact zr _
      . rw[jR,List.length_singleton];omega
    . rw[ek] at e2
      obtain rfl:=zj e2;exact (sD t _).1
   |abort e rs=>
    obtain⟨_,rfl,h3,e2⟩:=h.pV hw p;refine main () ?_ (fun k' ek=>?_) (fun e=>by rw[e] at e2;cases e2) rfl
    . rw[h3]
      show _+(2000 - t.aP.length)+(if t.aA=0 then 1 else 0)+0<=_
      split
      . exact zr _
      . rw[jR,List.length_singleton];omega
    . rw[ek] at e2
      obtain rfl:=zj e2;exact (sD t _).1
   |turns l r0=>
    obtain⟨_,rfl,h3,e4,e5⟩:=h.pW hw p;refine main () (by rw[h3];exact zr _) (fun k' ek=>?_) (fun e=>?_) rfl
    . cases l with
      |nil=>rw[(e5 rfl).1] at ek;cases ek
      |cons x l=>
       rw[e4 x l rfl] at ek;obtain rfl:=zj ek;exact zr _
    . cases l with
      |nil=>
       have Z:=p.Cv.1
       rcases (p.no e).2.2.2 with ⟨g,_⟩|⟨_,g,_⟩
       . rw[(e5 rfl).2] at g;omega
       . exact .inl g
      |cons x l=>rw[e4 x l rfl] at e;cases e
   |_=>exact absurd rfl hA
end
def iP (f:Nat->Nat):Nat->Nat
 |0=>0
 |m+1=>iP f m+f m
section
variable {N L n s q cq d kd aa M:Nat} {D τ υ aH aD dU:St} {t t0 t2 u u2:bL} {c c2:dN} {r:oZ} {k:K} {ok:Option K} {o:En.Op} {C:Nat->List Nat} {O:Nat->Nat}
theorem IV {f g:Nat->Nat} (m:Nat) (h:∀ i,i<m->f i<=g i):iP f m<=iP g m:=by
 induction m with
 |zero=>exact zr _
 |succ m ih=>have:=ih (fun i hi=>h i (by omega));have:=h m (by omega);show iP f m+f m<=iP g m+g m;omega
theorem yM (f g:Nat->Nat) (m:Nat):iP (fun i=>f i+g i) m=iP f m+iP g m:=by
 induction m with
 |zero=>rfl
 |succ m ih=>show iP _ m+(f m+g m)=iP f m+f m+(iP g m+g m);omega
theorem EK (a:Nat) (f:Nat->Nat) (m:Nat):iP (fun i=>a*f i) m=a*iP f m:=by
 induction m with
 |zero=>rfl
 |succ m ih=>show iP _ m+a*f m=a*(iP f m+f m);rw[Nat.mul_add,ih]
theorem EM (x v:Nat) (m:Nat):iP (fun i=>if x=i then v else 0) m=if x<m then v else 0:=by
 induction m with
 |zero=>rfl
 |succ m ih=>
  show iP _ m+(if x=m then v else 0)=_;rw[ih]
  split<;>split<;>split<;>omega
theorem pX (v m:Nat):iP (fun _=>v) m=v*m:=by
 induction m with
 |zero=>rfl
 |succ m ih=>show iP _ m+v=_;rw[ih,Nat.mul_succ]
theorem J3 (f:Nat->Nat) {m k:Nat} (h:m<=k):iP f m<=iP f k:=by
 induction k with
 |zero=>
  have:m=0:=by omega
  rw[this];exact zr _
 |succ k ih=>
  by_cases e:m=k+1
  . rw[e];exact zr _
  . have:=ih (by omega);show iP f m<=iP f k+f k;omega
theorem CS.Xq (h:CS N D C O) (hN:N<=256):∀ m,m<=64->∃ l:List Nat,l.Nodup∧l.length=iP (D.Dh) m∧∀ x∈l,x<N∧1<=O x∧O x<=m:=by
 intro m
 induction m with
 |zero=>intro _;exact⟨[],List.nodup_nil,rfl,fun x hx=>by cases hx⟩
 |succ m ih=>
  intro hm;obtain⟨l,h1,h2,h3⟩:=ih (by omega);refine⟨l++(C m).map ag,?_,?_,fun x hx=>?_⟩
  . rw[List.nodup_append]
    refine⟨h1,h.nd m (by omega),fun a ha b hb e=>?_⟩;obtain⟨y,hy,rfl⟩:=List.mem_map.1 hb;have h4:=(h.lo m (by omega) y hy).2;have h5:=(h3 a ha).2.2;rw[e] at h5;omega
  . rw[jR,List.length_map,h2]
    show _=iP D.Dh m+D.Dh m;rw[(h.Dh hN (by omega)).1]
  . rcases List.mem_append.1 hx with hx|hx
    . have:=h3 x hx;omega
    . obtain⟨y,hy,rfl⟩:=List.mem_map.1 hx
      have h4:=h.lo m (by omega) y hy;have:=h4.1.ag;omega
theorem CS.MN (h:CS N D C O) (hN:N<=256):iP D.cost 64<=128+6*N:=by
 obtain⟨l,h1,h2,h3⟩:=h.Xq hN 64 (by omega);have h4:=mZ N l h1 (fun x hx=>(h3 x hx).1);have h5:iP D.cost 64=iP (fun _=>2) 64+iP (fun i=>6*D.Dh i) 64:=by
  rw[<-yM];rfl
 rw[h5,pX,EK];omega
theorem J4 (υ:St) (l:List (Nat×Nat×Bool)) (hl:∀ r∈l,r.1<64):υ.aM l=iP (fun k=>l.countP (fun r=>r.1==k)*υ.cost k) 64:=by
 induction l with
 |nil=>
  have:(fun k=>([]:List (Nat×Nat×Bool)).countP (fun r=>r.1==k)*υ.cost k)=fun _=>0:=by
   funext k;simp
  rw[this,pX];rfl
 |cons r l ih=>
  have h1:=ih (fun r hr=>hl r (qg _ hr));have h2:υ.aM (r::l)=υ.cost r.1+υ.aM l:=by
   unfold St.aM;rw[List.map_cons,List.sum_cons]
  have h3:(fun k=>(r::l).countP (fun r=>r.1==k)*υ.cost k)=fun k=>l.countP (fun r=>r.1==k)*υ.cost k+(if r.1=k then υ.cost r.1 else 0):=by
   funext k
   rw[List.countP_cons]
   by_cases e:r.1=k
   . rw[aV e,show (r.1==k)=true by simpa using e,aV rfl,Nat.add_mul,Nat.one_mul,e]
   . rw[aR e,show (r.1==k)=false by simpa using e,aR (by decide)];simp
  rw[h2,h1,h3,yM,EM,aV (hl r nK)];omega
theorem J5 (l:List (Nat×Nat×Bool)) (hl:∀ r∈l,r.1<64):l.length=iP (fun k=>l.countP (fun r=>r.1==k)) 64:=by
 induction l with
 |nil=>
  have:(fun k=>([]:List (Nat×Nat×Bool)).countP (fun r=>r.1==k))=fun _=>0:=by funext k;simp
  rw[this,pX];rfl
 |cons r l ih=>
  have h1:=ih (fun r hr=>hl r (qg _ hr));have h3:(fun k=>(r::l).countP (fun r=>r.1==k))=fun k=>l.countP (fun r=>r.1==k)+(if r.1=k then 1 else 0):=by
   funext k
   rw[List.countP_cons]
   by_cases e:r.1=k
   . rw[aV e,show (r.1==k)=true by simpa using e,aV rfl]
   . rw[aR e,show (r.1==k)=false by simpa using e,aR (by decide)]
  rw[h3,yM,EM,aV (hl r nK),List.length_cons];omega
theorem EN (υ:St) (l:List (Nat×Nat×Bool)) (hl:∀ r∈l,r.1<64) (hc:∀ k,l.countP (fun r=>r.1==k)<=12):υ.aM l<=12*iP υ.cost 64:=by
 rw[J4 υ l hl,<-EK];exact IV _ (fun i _=>Nat.mul_le_mul_right _ (hc i))
theorem MO (υ:St):∀ (m k:Nat),υ.ji m k+2*iP υ.cost k=2*iP υ.cost (k+m):=by
 intro m
 induction m with
 |zero=>intro k;show 0+_=_;rw[Nat.add_zero];omega
 |succ m ih=>
  intro k;have h1:=ih (k+1);have h2:iP υ.cost (k+1)=iP υ.cost k+υ.cost k:=rfl;show 2*υ.cost k+υ.ji m (k+1)+_=_;rw[show k+(m+1)=k+1+m by omega];omega
theorem PQ (υ:St) {m k:Nat} (h:k+m<=64):υ.ji m k<=2*iP υ.cost 64:=by
 have h1:=MO υ m k;have h2:=J3 υ.cost h;omega
set_option maxHeartbeats 1600000 in
theorem R7 (h:CS N D C O) (hN:N<=256) (hT:TX N L n t) (Z:xU N L t c k) (hp:Pv N D O s cq k) (hc:∀ F,cnt t F<=12) (hop:c.op.F<64):D.dw N t c k<=2300+102*N:=by
 have hS:=h.MN hN;have hJ:D.aM t.reads<=12*iP D.cost 64:=EN D t.reads hT.rd hc;have hC:∀ F,F<64->D.cost F<=2+6*N:=fun F Z=>by have:=(h.Dh hN Z).2;unfold St.cost;omega
 have hA:∀ hu:dJ,ig t c hu->D.dF t c hu<=402+6*N+14*iP D.cost 64:=by
  intro hu hh;have h1:=hC hu.F hh.1;unfold St.dF;have h2:=hh.2
  split at h2
  . rename_i e1;simp only[e1];omega
  . rename_i k e1
    simp only[e1];have:=PQ D (m:=c.op.hi - k) (k:=k+1) (by have:=hh.1;omega);omega
  . rename_i e1;simp only[e1];omega
  . rename_i i l e1
    simp only[e1];have:=vR D t.reads (i+1);omega
 have hsg:∀ mb,D.sg N mb<=6*N+10:=fun mb=>by unfold St.sg;split<;>omega
 have hst:∀ i v x,D.st i v x<=x:=fun i v x=>by unfold St.st;split<;>omega
 have hD:∀ l,Path N D O cq l->l≠0->D.Dn l<=N:=fun l hp hl=>by have:=hp.zo hN;have:=this.2 hl;omega
 cases k with
 |fin r=>simp only[St.dw];omega
 |start hu=>have:=hA hu Z;have:=hC hu.F Z.1;simp only[St.dw];omega
 |visit hu l=>have:=hA hu Z.1;have:=hD l hp Z.2.ne;simp only[St.dw];omega
 |maker hu l id=>have:=hA hu Z.1;have:=hD l hp Z.2.1.ne;simp only[St.dw];omega
 |older hu l=>have:=hA hu Z.1;have:=hD l hp Z.2.ne;simp only[St.dw];omega
 |ended hu l mb=>have:=hA hu Z.1;have:=hD l hp Z.2.1.ne;have:=hsg mb;simp only[St.dw];omega
 |gW hu l mb id=>have:=hA hu Z.1;have:=hD l hp Z.2.1.ne;have:=hsg mb;simp only[St.dw];omega
 |seen hu l mb=>have:=hA hu Z.1;have:=hD l hp Z.2.1.ne;have:=hsg mb;simp only[St.dw];omega
 |again en=>simp only[St.dw];omega
 |own l=>simp only[St.dw];omega
 |ib l w id=>have:=hst (af l 1) w 8;simp only[St.dw];omega
 |claim l w=>have:=hst (af l 1) w 8;simp only[St.dw];omega
 |fresh l=>have:=(h.Dh hN hop).2;simp only[St.dw];omega
 |next l head a=>have:=hD a hp.2 Z.2.2.1.ne;have:=hst (9+c.op.F) head (3*N+20);simp only[St.dw];omega
 |free l head a=>have:=hD a hp.2 Z.2.2.1.ne;have:=hst (9+c.op.F) head (3*N+20);simp only[St.dw];omega
 |dM l head a id=>have:=hD a hp.2 Z.2.2.1.ne;have:=hst (9+c.op.F) head (3*N+20);simp only[St.dw];omega
 |fB x l head=>have:=hst (9+c.op.F) head (3*N+20);simp only[St.dw];cases x<;>simp<;>omega
 |dZ x l head=>have:=hst (9+c.op.F) head (3*N+20);simp only[St.dw];cases x<;>simp<;>omega
 |push l head=>have:=hst (9+c.op.F) head (3*N+20);simp only[St.dw];omega
 |dL l head=>have:=hst (9+c.op.F) head (3*N+20);simp only[St.dw];omega
 |over l=>simp only[St.dw];omega
 |iq l head=>have:=hst (9+c.op.F) head 8;simp only[St.dw];omega
 |dQ l head=>have:=hst (9+c.op.F) head 8;simp only[St.dw];omega
 |draw=>simp only[St.dw];omega
 |ed w now=>have:=hst 0 w 3;simp only[St.dw];omega
 |turn w now=>have:=hst 0 w 3;simp only[St.dw];omega
 |dR=>simp only[St.dw];omega
 |wait i=>exact zz _
 |cZ=>exact zz _
 |abort e r=>exact zz _
 |turns l r=>exact zz _
theorem R8 (k:K) (hl:∀ l r,k=.turns l r->l.length<=192):D.gI N c k<=9*N+2008:=by
 have hst:∀ i v x,D.st i v x<=x:=fun i v x=>by unfold St.st;split<;>omega
 have hx:D.xs c k<=8:=by
  unfold St.xs
  split
  all_goals first|exact hst _ _ _|exact zz _|(split<;>first|exact hst _ _ _|exact zz _)
 have hb:Cw.gI N k<=9*N+2000:=by
  unfold Cw.gI ui
  split
  all_goals first|omega|(split<;>omega)|skip
  rename_i l r;have:=hl l r rfl;omega
 unfold St.gI;omega
theorem R9 (hw:WF N L n D) (hcw:WC N D) (tl:Cj D) (s:Nat):D.wD N s<=18364+174*N:=by
 obtain⟨C,O,hcs,_,hpv⟩:=hcw;have hN:=hw.sh.n1;have hb:∀ q,D.Av N q<=9*N+2008∧D.rem N q<=2300+102*N:=by
  intro q
  cases ht:D.aj.getD q none with
  |none=>
   have hcn:D.calls.getD q none=none:=by
    cases e:D.calls.getD q none with
    |none=>rfl
    |some c'=>obtain⟨t',ht',_⟩:=hw.cx q c' e;rw[ht] at ht';cases ht'
   obtain⟨e1,e2,e3⟩:=yK (N:=N) ht hcn;rw[e1,e2];exact⟨zz _,zz _⟩
  |some t=>
   have hT:=hw.tx q t ht;have htl:=tl q t ht
   cases hc:D.calls.getD q none with
   |none=>
    obtain⟨e1,e2,e3⟩:=qH (N:=N) ht hc;have hk0:D.gQ q=none:=by unfold St.gQ;rw[hc];rfl
    rw[hk0] at htl;have hS:=hcs.MN hN;have hJ:D.aM t.reads<=12*iP D.cost 64:=EN D t.reads hT.rd (fun F=>by have:=htl.mul F;have:=hT.op;show cnt t F<=12;omega);rw[e1,e2];exact⟨by omega,by omega⟩
   |some c=>
    obtain⟨u',hu',hcx⟩:=hw.cx q c hc;rw[ht] at hu';obtain rfl:=zj hu';obtain⟨k',hk',hkk⟩:=hcx.k;obtain⟨e1,e2,e3⟩:=mh (N:=N) ht hc hk';have hk0:D.gQ q=some k':=by unfold St.gQ;rw[hc];exact hk'
    rw[hk0] at htl;rw[e1,e2];refine⟨R8 k' (fun l r e=>?_),R7 hcs hN hT hkk (hpv q c k' hc hk') (fun F=>by have:=htl.mul F;have:=hT.op;omega) (ED hcx.op)⟩;subst e;have h1:=htl.mul 0;have h2:=hT.op;simp only[pend] at h1
    split at h1<;>omega
 have h1:=(hb s).2;have h2:D.GU N<=8*(9*N+2008):=by
  unfold St.GU ry;have a0:=(hb 0).1;have a1:=(hb 1).1;have a2:=(hb 2).1;have a3:=(hb 3).1;have a4:=(hb 4).1;have a5:=(hb 5).1;have a6:=(hb 6).1;have a7:=(hb 7).1;omega
 unfold St.wD;omega
theorem WF.sharp (h:WF N L n D) (hi:TI D) (tl:Cj D) (h1:D.aT.length<=aa) (h2:D.cuts<=aa) (hG:2000<=aa):WF N L aa D:=by
 have hsh:=h.sh;have hN:=hsh.n1;have hwn:D.ja<=aa:=by
  cases e:D.listed with
  |true=>have:=hsh.bO.sm e;omega
  |false=>have:=(hsh.bO.w0 e).1;omega
 refine⟨⟨hsh.sl,hsh.lm,hsh.n1,hsh.l1,hsh.nw,hsh.nt,hsh.nv,hsh.t8,hsh.c8,hsh.md,hsh.wd,hsh.bO,hwn,h1,hsh.tp⟩,⟨h.sx.so,h.sx.lo,h.sx.cu,h.sx.cn,h2⟩,fun s t ht=>?_,h.ti,h.cx⟩;have hT:=h.tx s t ht;have htl:=tl s t ht;have gD:TL t (fun _=>0):=by
  split at htl
  . exact htl.mono (fun _=>zz _)
  . exact htl
 have Z:=gD.GX;have hb:=hi.aP hsh.md ht;have hmd:=hsh.md;have hr:t.reads.length<=768:=by
  rw[J5 t.reads hT.rd];have:=IV (f:=fun k=>t.reads.countP (fun r=>r.1==k)) (g:=fun _=>12) 64 (fun i _=>by have:=gD.mul i;have:=hT.op;show cnt t i<=12;omega);rw[pX] at this;omega
 exact⟨hT.i1,hT.i2,hT.op,hT.bg,hT.en,hT.ce,hT.ky,by omega,hT.rd,by omega,hT.bd,by omega⟩
end
section
variable {N L n s q cq d kd aa M:Nat} {D τ υ aH aD dU:St} {t t0 t2 u u2:bL} {c c2:dN} {r:oZ} {k:K} {ok:Option K} {o:En.Op} {C:Nat->List Nat} {O:Nat->Nat}
theorem PR (k:Nat):∀ (F:Nat) (τ:St) (c:dN),Mid N L n s d D τ t c->TL t (fun k=>if F<=k then 1 else 0)->∃ t' c',Mid N L n s d D (iE s k τ F).1 t' c'∧TL t' (fun q=>pend q (iE s k τ F).2):=by
 induction k with
 |zero=>
  intro F τ c m tl;exact⟨t,c,m,tl.mono (fun _=>zz _)⟩
 |succ k ih=>
  intro F τ c m tl;unfold iE;rw[m.ec,m.et]
  split
  . exact⟨t,c,m,tl.mono (fun _=>zz _)⟩
  . have Cc:TL t (fun k=>if F+1<=k then 1 else 0):=tl.mono (fun k=>by split<;>split<;>omega)
    split
    . rename_i x hx
      cases hth:x.there with
      |true=>
       simp only[if_true];exact ih (F+1) _ _ (m.tell F (τ.valueOf x.own)) Cc
      |false=>
       simp only[Bool.false_eq_true,if_false];exact ih (F+1) _ c m Cc
    . exact⟨t,c,m,tl⟩
theorem PT (m:Mid N L n s d D τ t c) (tl:TL t (fun _=>0)) (x:Bool) (G head:Nat):∃ t' c',Mid N L n s d D (τ.slot s x G head).1 t' c'∧TL t' (fun q=>pend q (τ.slot s x G head).2):=by
 obtain⟨t',c',h1,_,_,h4⟩:=vv τ m tl x G head;exact⟨t',c',h1,h4⟩
theorem MP (m:Mid N L n s d D τ t c) (tl:TL t (fun _=>if iB c.op then 0 else 1)):∃ t' c',Mid N L n s d D (τ.first s).1 t' c'∧TL t' (fun q=>pend q (τ.first s).2):=by
 have et:=m.et;have ec:=m.ec;have gD:TL t (fun _=>0):=tl.mono (fun _=>zz _);unfold St.first;simp only;rw[et,ec];have hE:∀ kk,c.op.kind=kk->(kk≠6∧kk≠7)->TL t (fun _=>1):=by
  intro kk e Z;have:iB c.op=false:=by unfold iB;rw[e];simp;omega
  rw[this] at tl
  simpa using tl
 split
 . rename_i e
   have t1:=hE 1 e (by omega)
   split
   . refine⟨t,c,m,?_⟩
     split<;>exact gD
   . exact⟨t,c,m,t1.mono (fun q=>by show (if q=_ then 1 else 0)<=1;split<;>omega)⟩
 . rename_i e
   have t1:=hE 5 e (by omega);unfold St.scan;exact PR _ _ _ c m (t1.mono (fun q=>by split<;>omega))
 . exact⟨t,c,m,gD⟩
 . exact⟨t,c,m,gD⟩
 . rename_i e1 e5 e6 e7
   have t1:=hE c.op.kind rfl ⟨e6,e7⟩
   split
   . split
     . exact⟨t,c,m,gD⟩
     split
     . exact⟨t,c,m,gD⟩
     split
     . exact PT m gD true 0 0
     . exact⟨t,c,m,gD⟩
   . exact⟨t,c,m,t1.mono (fun q=>by show (if q=_ then 1 else 0)<=1;split<;>omega)⟩
theorem Cj.mf (h:Cj D) (p:Ta N L n s D aH o t k dU t2 c2):Cj aH:=by
 have hk0:D.gQ s=none:=by unfold St.gQ;rw[p.ca];rfl
 have tl:=h s t p.tx;rw[hk0] at tl;have Cc:TL (jq o t) (fun _=>if iB (gN o (D.seq+1)).op then 0 else 1):=by
  show TL (jq o t) (fun _=>if iB o then 0 else 1);unfold jq
  split
  . exact tl
  . exact⟨fun F=>by have:=tl.mul F;show cnt t F+1<=t.ops+1;omega,tl.kd,tl.kl⟩
 obtain⟨t',c',m',h4⟩:=MP p.m Cc;rw[p.run] at m' h4;have e:t2=t':=zj (p.m2.tx.symm.trans m'.tx);subst e;have hk1:aH.gQ s=some k:=by unfold St.gQ;rw[p.cc];rfl
 intro q u hu
 by_cases e:q=s
 . subst e
   rw[p.tt] at hu;obtain rfl:=zj hu;rw[hk1];exact h4
 . rw[p.ox q e] at hu
   have:aH.gQ q=D.gQ q:=by unfold St.gQ;rw[p.oc q e]
   rw[this];exact h q u hu
theorem Cj.same (h:Cj D) (hx:τ.aj=D.aj) (hc:τ.calls=D.calls):Cj τ:=by
 intro q u hu;rw[hx] at hu;have:τ.gQ q=D.gQ q:=by unfold St.gQ;rw[hc]
 rw[this];exact h q u hu
theorem Cj.aJ (h:Cj D) {az:Nat} (hn:∀ q,q≠s->aH.aj.getD q none=D.aj.getD q none) (hc:aH.calls=D.calls) (ht:aH.aj.getD s none=some (fU d az cq)) (hs:D.calls.getD s none=none):Cj aH:=by
 intro q u hu;have hko:aH.gQ q=D.gQ q:=by unfold St.gQ;rw[hc]
 rw[hko]
 by_cases e:q=s
 . subst e
   rw[ht] at hu;obtain rfl:=zj hu;have:D.gQ q=none:=by unfold St.gQ;rw[hs];rfl
   rw[this];exact⟨fun F=>zz _,List.nodup_nil,fun k Z=>by cases Z⟩
 . rw[hn q e] at hu;exact h q u hu
theorem Cj.new (N L:Nat):Cj (En.new N L):=fun q u hu=>by rw[EG] at hu;cases hu
structure LI (N L n:Nat) (D:St):Prop where
 wf:WF N L n D
 wc:WC N D
 ti:TI D
 tt:TT D
 tl:Cj D
theorem LI.mono {n':Nat} (h:LI N L n D) (hn:n<=n'):LI N L n' D:=⟨h.wf.mono hn,h.wc,h.ti,h.tt,h.tl⟩
theorem LI.sharp (h:LI N L n D) (h1:D.aT.length<=aa) (h2:D.cuts<=aa) (hG:2000<=aa):LI N L aa D:=⟨h.wf.sharp h.ti h.tl h1 h2 hG,h.wc,h.ti,h.tt,h.tl⟩
theorem LI.step (h:LI N L n D) (hs:s<8) (hst:jg D s=some (aH,kd,r)) (hw:WF N L (n+3) aH):LI N L (n+3) aH:=by
 obtain⟨t,c,k,aD,ok,t2,c2,p⟩:=h.wf.parts hs hst;exact⟨hw,h.wc.step h.wf hs hst,(h.ti.IQ h.wf p).1,h.tt.step h.ti h.wf p,(EH h.ti h.wf h.wc h.tl hs p).2.2⟩
theorem LI.mf (h:LI N L n D) (hs:s<8) (hst:jh D s o=some aH) (hw:WF N L n aH):LI N L n aH:=by
 obtain⟨t,k,dU,t2,c2,p⟩:=h.wf.GN hs hst;exact⟨hw,h.wc.mf h.wf hs hst,(h.ti.mf h.wf p).1,h.tt.mf h.ti h.wf hs hst,h.tl.mf p⟩
theorem LI.aJ (h:LI N L n D) (hs:s<8) {az id:Nat} (hb:jP D s az=some (aH,id)) (hw:WF N L (n+1) aH) (hn:∀ q,q≠s->aH.aj.getD q none=D.aj.getD q none) (hc:aH.calls=D.calls) (ht:aH.aj.getD s none=some (fU d az cq)) (hcs:D.calls.getD s none=none):LI N L (n+1) aH:=
 ⟨hw,h.wc.aJ h.wf hs hb,(h.ti.aJ h.tt h.wf hs hb).1,(h.ti.aJ h.tt h.wf hs hb).2,h.tl.aJ hn hc ht hcs⟩
theorem LI.cz (h:LI N L n D):LI N L (n+1) D.cz.1:=by
 obtain⟨h1,-,-,-,-,-,-,h8,h9,-⟩:=h.wf.cz;exact⟨h1,h.wc.cz h.wf,(h.ti.cz h.tt h.wf).1,(h.ti.cz h.tt h.wf).2,h.tl.same h8 h9⟩
theorem LI.tick (h:LI N L n D):LI N L n D.tick:=by
 refine⟨h.wf.tick,h.wc.tick h.wf,h.ti.tick,?_,h.tl.same rfl rfl⟩;obtain⟨bs,h1,h2⟩:=h.tt;exact⟨bs,h1,h2⟩
theorem LI.new {N L:Nat} (h1:N<=256) (h2:L<=1099511627776):LI N L 0 (En.new N L):=⟨WF.new h1 h2,WC.new N L,(TI.new N L).1,(TI.new N L).2,Cj.new N L⟩
/- Turns. -/
def qI:En.Op:=⟨6,0,0,0⟩
def turn (D:St) (s:Nat):Option St:=
 if (D.aj.getD s none).isSome then (if (D.calls.getD s none).isSome then (jg D s).map (·.1) else jh D s qI) else some D
def Tc (t:bL):K->Nat
 |.turns l _=>l.length+1
 |.cZ|.abort _ _=>200
 |.wait i=>201+(t.aP.length - i)
 |_=>0
def _root_.Go.Proofs.YthicolbbmjfkfaaGreat.En.St.lm (D:St) (s:Nat):Nat:=match D.gQ s with|some k=>Tc (D.t s) k|none=>0
def MQ (D:St) (t:bL):K->Prop
 |.turns _ _|.cZ|.abort _ _=>True
 |.wait i=>iO D (t.aP.getD i 0)
 |_=>False
def prog (D:St) (s:Nat):Prop:=match D.gQ s with|some k=>MQ D (D.t s) k|none=>False
def gone (D:St) (s:Nat):Prop:=D.aj.getD s none=none
structure Turned (N s:Nat) (D τ:St):Prop where
 ph:∀ q,τ.wD N q<=D.wD N q
 me:gone τ s∨τ.late s=true∨τ.wD N s+1<=D.wD N s
 gn:∀ q,gone D q->gone τ q
 lt:∀ q,D.late q=true->gone τ q∨τ.late q=true
 lm:∀ q,q≠s->τ.lm q=D.lm q
 ls:D.late s=true->τ.lm s<=D.lm s∧(prog D s->τ.lm s+1<=D.lm s)
 pr:∀ q,q≠s->prog D q->prog τ q
 md:τ.aB=D.aB
 no:gone D s->τ=D
theorem IW (hq:τ.gQ q=D.gQ q) (ht:τ.aj.getD q none=D.aj.getD q none):τ.lm q=D.lm q:=by
 unfold St.lm St.t;rw[hq,ht]
theorem EO (Z:D.gQ s=some k) (ht:D.aj.getD s none=some t):D.lm s=Tc t k:=by
 have et:D.t s=t:=by unfold St.t;rw[ht];rfl
 unfold St.lm;rw[Z,et]
theorem q9 (Z:D.gQ s=some k) (ht:D.aj.getD s none=some t):prog D s↔MQ D t k:=by
 have et:D.t s=t:=by unfold St.t;rw[ht];rfl
 unfold prog;rw[Z,et]
theorem WF.yN (h:WF N L n D) (ht:D.aj.getD s none=none):D.calls.getD s none=none:=by
 cases e:D.calls.getD s none with
 |none=>rfl
 |some c'=>obtain⟨t',ht',_⟩:=h.cx s c' e;rw[ht] at ht';cases ht'
theorem AV (hst:∀ b,iO D b->iO τ b) (Z:τ.gQ q=D.gQ q) (ht:τ.aj.getD q none=D.aj.getD q none) (h:prog D q):prog τ q:=by
 unfold prog at h ⊢;rw[Z];have:τ.t q=D.t q:=by unfold St.t;rw[ht]
 rw[this]
 cases e:D.gQ q with
 |none=>rw[e] at h;exact h
 |some k=>
  rw[e] at h;simp only at h ⊢
  cases k<;>first|exact h|exact hst _ h
theorem EP (h:LI N L n D) (hs:s<8) (p:Stp N L n s D aH kd r t c k aD ok t2 c2):Turned N s D aH:=by
 obtain⟨a1,a2,a3⟩:=EH h.ti h.wf h.wc h.tl hs p;have hko:∀ q,q≠s->aH.gQ q=D.gQ q:=fun q hq=>by unfold St.gQ;rw[p.oc q hq]
 have hst:∀ b,iO D b->iO aH b:=by
  intro b hb;have hpl':aH.place b=D.place b:=by unfold St.place;rw[p.aF]
  obtain⟨_,_⟩:=h.ti.IQ h.wf p;unfold iO at hb ⊢;rw[hpl']
  cases e:wr (D.aK s {c with waits:=false}) s k with
  |none=>rw[p.su e];exact hb
  |some jv=>
   obtain⟨j,v⟩:=jv
   by_cases hj:D.place b=j
   . have hlen:D.place b<D.words.length∨¬ D.place b<D.words.length:=Classical.em _
     have hov:=(p.jI e 0).2;have h1:=h.wf.sh.place b;have hA:PK k=false:=by
      cases hA:PK k with
      |false=>rfl
      |true=>
       have:=R4 p.Cv hA p.m.et p.m.ec e (ED p.m.op);omega
     have h1':D.place b=73+N*3+b:=h1
     rcases hlen with hlen|hlen
     . rw[hj] at hlen
       have hv:=hov hlen;rw[hj,hv];rw[hj] at hb;have hpw:=h.ti.wd s t p.tx;rw[p.zq] at hpw
       cases k with
       |ed w now=>
        simp only[wr] at e
        split at e
        . rename_i hf
          obtain⟨rfl,rfl⟩:=iQ _ _ _ _ ▸ zj e;have hf':D.word (D.place (aZ w))=pack 1 0:=hf;have hb':bz (D.word (D.place (aZ w)))=3∨bz (D.word (D.place (aZ w)))=4:=hb;rw[hf',eU (by omega)] at hb';omega
        . cases e
       |turn w now=>
        simp only[wr] at e
        split at e
        . obtain⟨rfl,rfl⟩:=iQ _ _ _ _ ▸ zj e
          omega
        . cases e
       |dR=>
        simp only[wr] at e
        split at e
        . rename_i hf
          obtain⟨rfl,rfl⟩:=iQ _ _ _ _ ▸ zj e;have hb':bz ((D.aK s {c with waits:=false}).word ((D.aK s {c with waits:=false}).place (aZ (aW ((D.aK s {c with waits:=false}).t s).aA ((D.aK s {c with waits:=false}).t s).id))))=3∨bz ((D.aK s {c with waits:=false}).word ((D.aK s {c with waits:=false}).place (aZ (aW ((D.aK s {c with waits:=false}).t s).aA ((D.aK s {c with waits:=false}).t s).id))))=4:=hb;rw[hf,eU (by omega)] at hb';omega
        . cases e
       |cZ=>
        obtain⟨rfl,rfl⟩:=iQ _ _ _ _ ▸ zj e;rw[eU (by omega)];exact .inl rfl
       |abort x y=>
        obtain⟨rfl,rfl⟩:=iQ _ _ _ _ ▸ zj e;rw[eU (by omega)];exact .inr rfl
       |turns l r=>
        have UG:=p.m.s8
        cases l with
        |nil=>
         obtain⟨rfl,rfl⟩:=iQ _ _ _ _ ▸ zj e;omega
        |cons x l=>
         have:=(p.Cv.2.2 x nK).2;simp only[wr] at e
         split at e
         . obtain⟨rfl,rfl⟩:=iQ _ _ _ _ ▸ zj e
           omega
         . cases e
       |_=>cases hA
     . have:aH.word (D.place b)=D.word (D.place b):=by
        have h1:aH.word (D.place b)=0:=by
         unfold St.word;rw[mM,Cx (by rw[show aH.words=aD.words by (obtain⟨l,cs,ts,YC,e⟩:=p.e1;rw[e]),p.runs.1,e];show (D.words.set j v).length<=_;rw[rz];omega)];rfl
        have h2:D.word (D.place b)=0:=by
         unfold St.word;rw[mM,Cx (by omega)];rfl
        rw[h1,h2]
       rw[this];exact hb
   . rw[(p.jI e _).1 hj];exact hb
 have hgo:∀ k',ok=some k'->aH.aj.getD s none=some t2:=fun k' e=>(p.go k' e).2.2.2.1
 have MR:D.late s=late k:=(mh (N:=N) p.tx p.ca p.ck).2.2;refine⟨fun q=>?_,?_,fun q hq=>?_,fun q hq=>?_,fun q hq=>IW (hko q hq) (p.ox q hq),fun hl=>?_,fun q hq hp=>AV hst (hko q hq) (p.ox q hq) hp,p.aB,fun hg=>by unfold gone at hg;rw[p.tx] at hg;cases hg⟩
 . by_cases e:q=s
   . subst e
     split at a2
     . exact a2.1
     . omega
   . exact a1 q e
 . split at a2
   . exact a2.2.elim .inl (fun x=>.inr (.inl x))
   . exact .inr (.inr a2)
 . by_cases e:q=s
   . subst e;unfold gone at hq;rw[p.tx] at hq;cases hq
   . unfold gone at hq ⊢;rw[p.ox q e];exact hq
 . by_cases e:q=s
   . subst e
     rw[MR] at hq;rw[aV hq] at a2;exact a2.2
   . refine .inr ?_
     unfold St.late at hq ⊢;rw[p.oc q e];exact hq
 . rw[MR] at hl
   rw[EO p.zq p.tx,q9 p.zq p.tx];have hzero:ok=none->aH.lm s=0:=fun e=>by
    unfold St.lm;rw[p.JX e]
   cases k with
   |wait i=>
    have hi:i<t.aP.length:=p.Cv
    cases ok with
    |none=>
     rw[hzero rfl];have hL:Tc t (.wait i)=201+(t.aP.length - i):=rfl;omega
    |some k'=>
     have ht2:t2=t:=by
      apply p.tt;have e1:=p.run;simp only[St.run] at e1
      split at e1
      . obtain⟨e1,_⟩:=iQ _ _ _ _ ▸ e1
        rw[<-e1];exact p.tx
      . split at e1
        . obtain⟨e1,_⟩:=iQ _ _ _ _ ▸ e1
          rw[<-e1];exact p.tx
        . obtain⟨e1,_⟩:=iQ _ _ _ _ ▸ e1
          rw[<-e1];exact p.tx
     subst ht2;rw[EO (p.kR rfl) (hgo _ rfl)];have hL:Tc t2 (.wait i)=201+(t2.aP.length - i):=rfl;have e1:=p.run;simp only[St.run,p.m.et] at e1;have hpg:MQ D t2 (.wait i)=iO D (t2.aP.getD i 0):=rfl;rw[hL,hpg]
     split at e1
     . obtain⟨_,e2⟩:=iQ _ _ _ _ ▸ e1
       obtain rfl:=zj e2;have hm:((D.aK s {c with waits:=false}).tick.t s)=t2:=p.m.tick.et;have e3:Tc t2 (jJ ((D.aK s {c with waits:=false}).tick.t s) (i+1))<=201+(t2.aP.length - (i+1)):=by
        rw[hm];unfold jJ
        split
        . show 200<=_;omega
        . exact zr _
       omega
     . rename_i h3
       split at e1
       . obtain⟨_,e2⟩:=iQ _ _ _ _ ▸ e1
         obtain rfl:=zj e2;have e3:Tc t2 (.abort 14 4)=200:=rfl;omega
       . rename_i h4
         obtain⟨_,e2⟩:=iQ _ _ _ _ ▸ e1;obtain rfl:=zj e2;refine⟨zr _,fun hp=>?_⟩
         rcases hp with hp|hp
         . exact absurd hp h3
         . exact absurd hp h4
   |cZ=>
    obtain⟨_,rfl,_,e4⟩:=h.ti.og h.wf p;have htl:=h.tl s t p.tx;rw[p.zq] at htl;have:=yL D (htl.mono (p':=fun _=>0) (fun _=>zz _));rw[EO (p.kR e4) (hgo _ e4)];show (eY D t).length+1<=200∧(True->(eY D t).length+1+1<=200);exact⟨by omega,fun _=>by omega⟩
   |abort e rs=>
    obtain⟨_,rfl,_,e4⟩:=h.ti.pV h.wf p;have htl:=h.tl s t p.tx;rw[p.zq] at htl;have:=AR D (htl.mono (p':=fun _=>0) (fun _=>zz _));rw[EO (p.kR e4) (hgo _ e4)];show (fV D t).length+1<=200∧(True->(fV D t).length+1+1<=200);exact⟨by omega,fun _=>by omega⟩
   |turns l r0=>
    obtain⟨_,rfl,_,e4,e5⟩:=h.ti.pW h.wf p
    cases l with
    |nil=>
     rw[hzero (e5 rfl).1];show 0<=1∧(True->0+1<=1);exact⟨by omega,fun _=>by omega⟩
    |cons x l=>
     rw[EO (p.kR (e4 x l rfl)) (hgo _ (e4 x l rfl))];show l.length+1<=l.length+1+1∧(True->l.length+1+1<=l.length+1+1);exact⟨by omega,fun _=>by omega⟩
   |_=>cases hl
theorem Ck (h:LI N L n D) (hs:s<8) (p:Ta N L n s D aH qI t k dU t2 c2):Turned N s D aH∧aH.aT=D.aT∧aH.cuts=D.cuts∧aH.GY<=D.GY:=by
 obtain⟨ws,hm⟩:=p.ws;obtain⟨_,hts,htl⟩:=h.ti.mf h.wf p;have hko:∀ q,q≠s->aH.gQ q=D.gQ q:=fun q hq=>by unfold St.gQ;rw[p.oc q hq]
 have hk0:D.gQ s=none:=by unfold St.gQ;rw[p.ca];rfl
 have hst:∀ b,iO D b->iO aH b:=fun b hb=>by unfold iO at hb ⊢;rw[ws.place,ws.word];exact hb
 have er:=p.run;have Xr:(cO D s qI t).first s=(cO D s qI t,.draw):=by
  unfold St.first;simp only;rw[p.m.ec];rfl
 rw[Xr] at er;obtain⟨e4,ek⟩:=iQ _ _ _ _ ▸ er;have U2:aH.cuts=D.cuts:=by
  rw[p.e1,<-e4];rfl
 have et2:t2=t:=by
  have h1:=p.m2.tx;rw[<-e4] at h1;have h2:=p.m.tx;rw[h1] at h2;exact zj h2
 subst et2;subst ek;have hk1:aH.gQ s=some .draw:=by unfold St.gQ;rw[p.cc];rfl
 obtain⟨e1,e2,e3⟩:=mh (N:=N) p.tt p.cc rfl;obtain⟨f1,f2,f3⟩:=qH (N:=N) p.tx p.ca;have g1:aH.rem N s=10+D.aM t2.reads:=by rw[e1];show 10+aH.aM t2.reads=_;rw[ws.aM]
 have g2:aH.Av N s=6*N+1613:=by rw[e2];rfl
 have hoth:∀ q,q≠s->aH.rem N q=D.rem N q∧aH.Av N q=D.Av N q:=by
  intro q hq;unfold St.rem St.Av;rw[p.ox q hq,p.oc q hq]
  cases D.aj.getD q none with
  |none=>exact⟨rfl,rfl⟩
  |some u=>
   cases D.calls.getD q none with
   |none=>simp only[ws.aM];exact⟨trivial,trivial⟩
   |some c'=>
    cases Z:c'.k with
    |none=>simp only[Z];exact⟨trivial,trivial⟩
    |some k'=>simp only[Z,ws.dw,ws.gI];exact⟨trivial,trivial⟩
 have hbs:aH.GU N=D.GU N:=by
  have:=EJ (f:=D.Av N) (g:=aH.Av N) hs (fun q hq=>(hoth q hq).2);unfold St.GU;omega
 have Xt:aH.GY<=D.GY:=by
  have hg:∀ q,aH.AU q=D.AU q:=by
   intro q
   by_cases e:q=s
   . subst e
     unfold St.AU;rw[p.tt,p.tx,hk1,hk0];rfl
   . unfold St.AU
     rw[p.ox q e,hko q e]
  unfold St.GY;rw[htl,show aH.AU=D.AU from funext hg];exact zr _
 refine⟨⟨fun q=>?_,.inr (.inr ?_),fun q hq=>?_,fun q hq=>?_,fun q hq=>IW (hko q hq) (p.ox q hq),fun hl=>(by rw[f3] at hl;cases hl),fun q hq hp=>AV hst (hko q hq) (p.ox q hq) hp,hm,fun hg=>by unfold gone at hg;rw[p.tx] at hg;cases hg⟩,htl,U2,Xt⟩
 . unfold St.wD
   rw[hbs]
   by_cases e:q=s
   . subst e;rw[g1,f1];omega
   . rw[(hoth q e).1];exact zr _
 . unfold St.wD
   rw[hbs,g1,f1];omega
 . by_cases e:q=s
   . subst e;unfold gone at hq;rw[p.tx] at hq;cases hq
   . unfold gone at hq ⊢;rw[p.ox q e];exact hq
 . by_cases e:q=s
   . subst e;rw[f3] at hq;cases hq
   . refine .inr ?_
     unfold St.late at hq ⊢;rw[p.oc q e];exact hq
end
structure EI (N L aa M:Nat) (D:St):Prop where
 li:LI N L aa D
 ct:D.count<=M
 lk:D.aI<=M
 sq:D.seq<=M
 ga:D.GY<=aa
 cu:D.cuts<=aa
def mK:List Nat->St->Option St
 |[],D=>some D
 |s::l,D=>match turn D s with|some aH=>mK l aH|none=>none
def rounds (l:List Nat):Nat->St->Option St
 |0,D=>some D
 |m+1,D=>match mK l D with|some aH=>rounds l m aH|none=>none
def jQ (D:St):Prop:=∀ s,gone D s∨D.late s=true
structure Round (N:Nat) (l:List Nat) (D τ:St):Prop where
 ph:∀ q,τ.wD N q<=D.wD N q
 me:∀ s∈l,gone τ s∨τ.late s=true∨τ.wD N s+1<=D.wD N s
 gn:∀ q,gone D q->gone τ q
 lt:∀ q,D.late q=true->gone τ q∨τ.late q=true
 lm:jQ D->∀ q,τ.lm q<=D.lm q
 pr:jQ D->∀ s∈l,prog D s->τ.lm s+1<=D.lm s
 md:τ.aB=D.aB
section
variable {N L n s q cq d kd aa M:Nat} {D τ υ aH aD dU:St} {t t0 t2 u u2:bL} {c c2:dN} {r:oZ} {k:K} {ok:Option K} {o:En.Op} {C:Nat->List Nat} {O:Nat->Nat}
theorem Stp.cuts (p:Stp N L n s D aH kd r t c k aD ok t2 c2):aH.cuts=D.cuts:=by
 obtain⟨l,cs,ts,tl,e⟩:=p.e1;obtain⟨d,m2⟩:=p.m2;rw[e];exact m2.sp.2.2.2
theorem Turned.same (h:gone D s) (hc:D.calls.getD s none=none):Turned N s D D:=
 ⟨fun _=>zr _,.inl h,fun _ h=>h,fun _ h=>.inr h,fun _ _=>rfl,fun hl=>(by unfold St.late at hl;rw[hc] at hl;cases hl),fun _ _ h=>h,rfl,fun _=>rfl⟩
theorem EI.turn (h:EI N L aa M D) (hG:2000<=aa) (J6:aa<900000) (hM:M<1000000000000) (hs:s<8):∃ aH,turn D s=some aH∧EI N L aa (M+1) aH∧Turned N s D aH:=by
 have hct:=h.ct;have hlk:=h.lk;have Ct:=h.sq;unfold Cw.turn
 cases ht:D.aj.getD s none with
 |none=>
  exact⟨D,rfl,⟨h.li,by omega,by omega,by omega,h.ga,h.cu⟩,Turned.same ht (h.li.wf.yN ht)⟩
 |some t=>
  simp only[Option.isSome_some,if_true]
  cases hc:D.calls.getD s none with
  |some c=>
   simp only[Option.isSome_some,if_true];obtain⟨aH,kd,r,hst,hwf,hc1,hc2,hl1,hl2,JW,hmd,-⟩:=h.li.wf.step hs hc (by omega) (by omega) (by omega);obtain⟨t',c',k,aD,ok,t2,c2,p⟩:=h.li.wf.parts hs hst;have hg:=MM h.li.ti h.li.wf hs p;have Xu:=h.li.step hs hst hwf;have hga:aH.GY<=aa:=gy hg h.ga;have U2:aH.cuts<=aa:=by rw[p.cuts];exact h.cu
   rw[hst];refine⟨aH,rfl,⟨Xu.sharp (by unfold St.GY at hga;omega) U2 hG,by omega,by omega,by omega,hga,U2⟩,EP h.li hs p⟩
  |none=>
   simp only[Option.isSome_none,Bool.false_eq_true,if_false];obtain⟨aH,hi,hwf,hc1,hl1,JW,hmd,-⟩:=h.li.wf.mf hs ht hc (o:=qI) (by decide) (.inr (by decide)) (by omega) (by omega);obtain⟨t',k,dU,t2,c2,p⟩:=h.li.wf.GN hs hi;obtain⟨g1,g2,g3,g4⟩:=Ck h.li hs p;have Xu:=h.li.mf hs hi hwf;exact⟨aH,hi,⟨Xu,by omega,by omega,by omega,gy g4 h.ga,by rw[g3];exact h.cu⟩,g1⟩
theorem jQ.next (h:jQ D) (hT:Turned N s D τ):jQ τ:=fun q=>(h q).elim (fun x=>.inl (hT.gn q x)) (fun x=>hT.lt q x)
theorem EI.mK:∀ (l:List Nat) (D:St) (M:Nat),EI N L aa M D->2000<=aa->aa<900000->M+l.length<1000000000000->(∀ s∈l,s<8)->∃ aH,mK l D=some aH∧EI N L aa (M+l.length) aH∧Round N l D aH:=by
 intro l
 induction l with
 |nil=>
  intro D M h _ _ _ _;exact⟨D,rfl,h,⟨fun _=>zr _,fun s hs=>(by cases hs),fun _ h=>h,fun _ h=>.inr h,fun _ _=>zr _,fun _ s hs=>(by cases hs),rfl⟩⟩
 |cons s l ih=>
  intro D M h hG J6 hM hl;rw[List.length_cons] at hM;obtain⟨aH,e1,h1,T⟩:=h.turn hG J6 (by omega) (hl s nK);obtain⟨aD,e2,h2,be⟩:=ih aH (M+1) h1 hG J6 (by omega) (fun q hq=>hl q (qg _ hq));have U3:jQ D->∀ q,aH.lm q<=D.lm q:=by
   intro ha q
   by_cases e:q=s
   . subst e
     rcases ha q with g|g
     . rw[T.no g];exact zr _
     . exact (T.ls g).1
   . rw[T.lm q e];exact zr _
  refine⟨aD,?_,?_,⟨fun q=>gy (be.ph q) (T.ph q),fun q hq=>?_,fun q hg=>be.gn q (T.gn q hg),fun q hq=>?_,fun ha q=>gy (be.lm (ha.next T) q) (U3 ha q),fun ha q hq hp=>?_,be.md.trans T.md⟩⟩
  . show (match Cw.turn D s with|some aH=>Cw.mK l aH|none=>none)=_
    rw[e1];exact e2
  . rw[List.length_cons,show M+(l.length+1)=M+1+l.length by omega];exact h2
  . rcases List.mem_cons.1 hq with rfl|hq
    . rcases T.me with g|g|g
      . exact .inl (be.gn _ g)
      . exact (be.lt _ g).elim .inl (fun x=>.inr (.inl x))
      . exact .inr (.inr (by have:=be.ph q;omega))
    . rcases be.me q hq with g|g|g
      . exact .inl g
      . exact .inr (.inl g)
      . exact .inr (.inr (by have:=T.ph q;omega))
  . rcases T.lt q hq with g|g
    . exact .inl (be.gn _ g)
    . exact be.lt _ g
  . have hb:=be.lm (ha.next T) q
    by_cases e:q=s
    . subst e
      rcases ha q with g|g
      . exfalso
        have hcn:=h.li.wf.yN g;unfold prog at hp;have:D.gQ q=none:=by unfold St.gQ;rw[hcn];rfl
        rw[this] at hp;exact hp
      . have:=(T.ls g).2 hp
        omega
    . have hm:q∈l:=(List.mem_cons.1 hq).resolve_left e
      have:=be.pr (ha.next T) q hm (T.pr q e hp);have:=U3 ha q;omega
theorem LI.progress (h:LI N L n D) (ha:jQ D):∀ (m:Nat) (s:Nat) (t:bL),D.aj.getD s none=some t->t.aA<=m->∃ q,q<8∧¬ gone D q∧prog D q:=by
 intro m
 induction m with
 |zero=>
  intro s t ht hm;have hs:s<8:=by
   cases hh:decide (s<8) with
   |true=>simpa using hh
   |false=>
    have h8:=h.wf.sh.t8
    rw [mM, Cx (by
                                                              have:¬ s<8:=by simpa using hh
                                                              omega)] at ht
    cases ht
  have Qv:¬ gone D s:=by unfold gone;rw[ht];intro e;cases e
  have hl:=(ha s).resolve_left Qv;refine⟨s,hs,Qv,?_⟩;unfold St.late at hl
  cases hc:D.calls.getD s none with
  |none=>rw[hc] at hl;cases hl
  |some c=>
   rw[hc] at hl
   cases Z:c.k with
   |none=>simp only[Z] at hl;cases hl
   |some k=>
    simp only[Z] at hl;have hko:D.gQ s=some k:=by unfold St.gQ;rw[hc];exact Z
    rw[q9 hko ht]
    cases k with
    |wait i=>
     rcases h.ti.kk s t _ ht hko with ⟨l,r,e⟩|hx
     . cases e
     . exact absurd (Nat.le_zero.1 hm) hx
    |cZ=>trivial
    |abort e r=>trivial
    |turns l r=>trivial
    |_=>cases hl
 |succ m ih=>
  intro s t ht hm;have hs:s<8:=by
   cases hh:decide (s<8) with
   |true=>simpa using hh
   |false=>
    have h8:=h.wf.sh.t8
    rw [mM, Cx (by
                                                              have:¬ s<8:=by simpa using hh
                                                              omega)] at ht
    cases ht
  have Qv:¬ gone D s:=by unfold gone;rw[ht];intro e;cases e
  have hl:=(ha s).resolve_left Qv;unfold St.late at hl
  cases hc:D.calls.getD s none with
  |none=>rw[hc] at hl;cases hl
  |some c=>
   rw[hc] at hl
   cases Z:c.k with
   |none=>simp only[Z] at hl;cases hl
   |some k=>
    simp only[Z] at hl;have hko:D.gQ s=some k:=by unfold St.gQ;rw[hc];exact Z
    cases k with
    |wait i=>
     have yS:t.aA≠0:=by
      rcases h.ti.kk s t _ ht hko with ⟨l,r,e⟩|hx
      . cases e
      . exact hx
     obtain⟨u',hu',hcx⟩:=h.wf.cx s c hc;rw[ht] at hu';obtain rfl:=zj hu';obtain⟨k',hk',hkk⟩:=hcx.k;rw[Z] at hk';obtain rfl:=zj hk';have hi:i<t.aP.length:=hkk;obtain⟨b1,b2,b3,b4⟩:=(h.ti.bo s t ht).2 (t.aP.getD i 0) (Eh hi)
     rcases b4 with b4|⟨s',t',g1,g2,g3,g4⟩
     . exact⟨s,hs,Qv,(q9 hko ht).2 b4⟩
     . have hne:s≠s':=by
        rintro rfl;rw[ht] at g1;obtain rfl:=zj g1;exact b3 g2.symm
       have:=h.ti.ne s s' t t' ht g1 hne yS;unfold lim at g4;rw[aR yS] at g4;exact ih s' t' g1 (by omega)
    |cZ=>exact⟨s,hs,Qv,(q9 hko ht).2 trivial⟩
    |abort e r=>exact⟨s,hs,Qv,(q9 hko ht).2 trivial⟩
    |turns l r=>exact⟨s,hs,Qv,(q9 hko ht).2 trivial⟩
    |_=>cases hl
theorem ER:D.live.length=0↔∀ s,s<8->gone D s:=by
 unfold St.live gone;rw[List.length_eq_zero_iff,List.filter_eq_nil_iff];constructor
 . intro h s hs
   have:=h s (List.mem_range.2 hs)
   simpa using this
 . intro h s hs
   rw[h s (List.mem_range.1 hs)];simp
theorem IX {f g:Nat->Nat} (h:∀ q,g q<=f q) (hs:s<8) (hl:g s+1<=f s):ry g+1<=ry f:=by
 have h0:=h 0;have h1:=h 1;have h2:=h 2;have h3:=h 3;have h4:=h 4;have h5:=h 5;have h6:=h 6;have h7:=h 7;unfold ry
 rcases (by omega:s=0∨s=1∨s=2∨s=3∨s=4∨s=5∨s=6∨s=7) with rfl|rfl|rfl|rfl|rfl|rfl|rfl|rfl<;>omega
theorem jQ.round {l:List Nat} (h:jQ D) (hT:Round N l D τ):jQ τ:=fun q=>(h q).elim (fun x=>.inl (hT.gn q x)) (fun x=>hT.lt q x)
theorem EI.Sa {l:List Nat} (hl:∀ s∈l,s<8) (ha:∀ s,s<8->s∈l) (hG:2000<=aa) (J6:aa<900000):∀ (m:Nat) (D:St) (M:Nat),EI N L aa M D->jQ D->ry D.lm<=m->M+l.length*m<1000000000000->∃ j bB,j<=m∧rounds l j D=some bB∧bB.live.length=0∧EI N L aa (M+l.length*j) bB∧bB.aB=D.aB:=by
 intro m
 induction m with
 |zero=>
  intro D M h hall hm _;refine⟨0,D,zr _,rfl,ER.2 (fun s hs=>?_),h,rfl⟩
  rcases hall s with g|g
  . exact g
  . exfalso
    by_cases hg:gone D s
    . have hc:=h.li.wf.yN hg
      unfold St.late at g;rw[hc] at g;cases g
    . cases ht:D.aj.getD s none with
      |none=>exact hg ht
      |some t=>
       obtain⟨q,q8,_,hp⟩:=h.li.progress hall t.aA s t ht (zr _);have hz:D.lm q=0:=by
        have:=IX (f:=D.lm) (g:=fun x=>if x=q then D.lm x - 1 else D.lm x) (s:=q) (fun x=>by show (if x=q then D.lm x - 1 else D.lm x)<=_;split<;>omega) q8
        by_cases e:D.lm q=0
        . exact e
        . have:=this (by show (if q=q then D.lm q - 1 else D.lm q)+1<=_;rw[aV rfl];omega)
          omega
       unfold prog at hp;unfold St.lm at hz
       cases Z:D.gQ q with
       |none=>rw[Z] at hp;exact hp
       |some k=>
        rw[Z] at hp hz;simp only at hp hz
        cases k with
        |turns l r=>exact absurd hz (Nat.succ_ne_zero _)
        |cZ=>exact absurd hz (by show ¬ (200=0);omega)
        |abort e r=>exact absurd hz (by show ¬ (200=0);omega)
        |wait i=>exact absurd hz (by show ¬ (201+_=0);omega)
        |_=>exact hp
 |succ m ih=>
  intro D M h hall hm hM
  by_cases hlive:D.live.length=0
  . exact⟨0,D,zz _,rfl,hlive,h,rfl⟩
  . have hex:∃ s t,D.aj.getD s none=some t:=by
     refine Classical.byContradiction fun hn=>hlive (ER.2 fun s _=>?_)
     unfold gone
     cases ht:D.aj.getD s none with
     |none=>rfl
     |some t=>exact absurd ⟨s,t,ht⟩ hn
    obtain⟨s,t,ht⟩:=hex;obtain⟨q,q8,_,hp⟩:=h.li.progress hall t.aA s t ht (zr _);rw[Nat.mul_succ] at hM;obtain⟨aH,e1,h1,be⟩:=EI.mK l D M h hG J6 (by omega) hl;have hdec:=IX (be.lm hall) q8 (be.pr hall q (ha q q8) hp);obtain⟨j,bB,hj,e2,h2,h3,h4⟩:=ih aH (M+l.length) h1 (hall.round be) (by omega) (by omega);refine⟨j+1,bB,by omega,?_,h2,?_,h4.trans be.md⟩
    . show (match Cw.mK l D with|some aH=>rounds l j aH|none=>none)=_
      rw[e1];exact e2
    . rw[Nat.mul_succ,show M+(l.length*j+l.length)=M+l.length+l.length*j by omega];exact h3
theorem vT (h:LI N L n D) (s:Nat):D.lm s<=2201:=by
 unfold St.lm
 cases Z:D.gQ s with
 |none=>exact zz _
 |some k=>
  simp only
  cases ht:D.aj.getD s none with
  |none=>
   have hc:=h.wf.yN ht;unfold St.gQ at Z;rw[hc] at Z;cases Z
  |some t=>
   have et:D.t s=t:=by unfold St.t;rw[ht];rfl
   rw[et];have hb:=h.ti.aP h.wf.sh.md ht;have hmd:=h.wf.sh.md;have htl:=h.tl s t ht;rw[Z] at htl;have hop:=(h.wf.tx s t ht).op
   cases k with
   |turns l r=>
    have h1:=htl.mul 0;simp only[pend] at h1;show l.length+1<=_
    split at h1<;>omega
   |wait i=>show 201+(t.aP.length - i)<=_;omega
   |cZ=>show 200<=_;omega
   |abort e r=>show 200<=_;omega
   |_=>exact zz _
theorem EI.Sb {l:List Nat} (hl:∀ s∈l,s<8) (ha:∀ s,s<8->s∈l) (hG:2000<=aa) (J6:aa<900000) {B:Nat} (hB:17608<=B):∀ (m:Nat) (D:St) (M:Nat),EI N L aa M D->(∀ s,gone D s∨D.late s=true∨D.wD N s<=m)->M+l.length*(m+1+B)<1000000000000->∃ j bB,j<=m+1+B∧rounds l j D=some bB∧bB.live.length=0∧EI N L aa (M+l.length*j) bB∧bB.aB=D.aB:=by
 intro m
 induction m with
 |zero=>
  intro D M h hall hM;rw[show 0+1+B=B+1 by omega,Nat.mul_succ] at hM;obtain⟨aH,e1,h1,be⟩:=EI.mK l D M h hG J6 (by omega) hl;have ha1:jQ aH:=by
   intro s
   by_cases hs:s<8
   . rcases hall s with g|g|g
     . exact .inl (be.gn s g)
     . exact be.lt s g
     . rcases be.me s (ha s hs) with x|x|x
       . exact .inl x
       . exact .inr x
       . omega
   . left
     unfold gone;rw[mM,Cx (by rw[h1.li.wf.sh.t8];omega)];rfl
  have hsum:ry aH.lm<=17608:=by
   have a0:=vT h1.li 0;have a1:=vT h1.li 1;have a2:=vT h1.li 2;have a3:=vT h1.li 3;have a4:=vT h1.li 4;have a5:=vT h1.li 5;have a6:=vT h1.li 6;have a7:=vT h1.li 7;unfold ry;omega
  obtain⟨j,bB,hj,e2,h2,h3,h4⟩:=EI.Sa hl ha hG J6 B aH (M+l.length) h1 ha1 (gy hsum hB) (by omega);refine⟨j+1,bB,by omega,?_,h2,?_,h4.trans be.md⟩
  . show (match Cw.mK l D with|some aH=>rounds l j aH|none=>none)=_
    rw[e1];exact e2
  . rw[Nat.mul_succ,show M+(l.length*j+l.length)=M+l.length+l.length*j by omega];exact h3
 |succ m ih=>
  intro D M h hall hM;rw[show m+1+1+B=m+1+B+1 by omega,Nat.mul_succ] at hM;obtain⟨aH,e1,h1,be⟩:=EI.mK l D M h hG J6 (by omega) hl;have ha1:∀ s,gone aH s∨aH.late s=true∨aH.wD N s<=m:=by
   intro s
   by_cases hs:s<8
   . rcases hall s with g|g|g
     . exact .inl (be.gn s g)
     . exact (be.lt s g).elim .inl (fun x=>.inr (.inl x))
     . rcases be.me s (ha s hs) with x|x|x
       . exact .inl x
       . exact .inr (.inl x)
       . exact .inr (.inr (by omega))
   . left
     unfold gone;rw[mM,Cx (by rw[h1.li.wf.sh.t8];omega)];rfl
  obtain⟨j,bB,hj,e2,h2,h3,h4⟩:=ih aH (M+l.length) h1 ha1 (by rw[Nat.add_assoc,Nat.add_comm l.length];exact hM);refine⟨j+1,bB,by omega,?_,h2,?_,h4.trans be.md⟩
  . show (match Cw.mK l D with|some aH=>rounds l j aH|none=>none)=_
    rw[e1];exact e2
  . rw[Nat.mul_succ,show M+(l.length*j+l.length)=M+l.length+l.length*j by omega];exact h3
theorem EI.ends {l:List Nat} (h:EI N L aa M D) (hl:∀ s∈l,s<8) (ha:∀ s,s<8->s∈l) (hG:2000<=aa) (J6:aa<900000) (hM:M+l.length*(35973+174*N)<1000000000000):∃ j bB,j<=35973+174*N∧rounds l j D=some bB∧bB.live.length=0∧EI N L aa (M+l.length*j) bB∧bB.aB=D.aB:=by
 obtain⟨j,bB,h1,h2⟩:=EI.Sb hl ha hG J6 (zr 17608) (18364+174*N) D M h (fun s=>.inr (.inr (R9 h.li.wf h.li.wc h.li.tl s))) (by rw[show 18364+174*N+1+17608=35973+174*N by omega];exact hM);exact⟨j,bB,by omega,h2⟩
theorem LI.Xv (h:LI N L n D) (hc:D.count<=M) (hl:D.aI<=M) (hs:D.seq<=M):EI N L (n+18032) M D:=by
 have hgm:D.GY<=n+16032:=by
  have hg:∀ q,D.AU q<=2004:=by
   intro q;unfold St.AU
   split
   . exact zz _
   . rename_i t _
     have:=(sD t (D.gQ q)).2
     split<;>split<;>omega
  have a0:=hg 0;have a1:=hg 1;have a2:=hg 2;have a3:=hg 3;have a4:=hg 4;have a5:=hg 5;have a6:=hg 6;have a7:=hg 7;have:=h.wf.sh.tl;unfold St.GY ry;omega
 have U2:=h.wf.sx.cb;have htl:=h.wf.sh.tl;exact⟨h.mono (by omega),hc,hl,hs,by omega,by omega⟩
end
end Go.Proofs.YthicolbbmjfkfaaGreat.Em.Cw
