import Derived.Test.YthicolbbmjfkfaaGreatQh25
set_option linter.unusedVariables false
set_option linter.unusedSimpArgs false
set_option maxRecDepth 100000
set_option maxHeartbeats 1600000
namespace Go.Proofs.YthicolbbmjfkfaaGreat.Em.Cw
open En
/- Times,ends,bonds. -/
def HT (t:bB) (h:dw):Prop:=match h.thn with
 |.judge _ _=>h.at_=t.ax∧t.ax≠0
 |_=>h.at_=t.aG∧t.ax=0
def KT (P Q:Nat->Prop) (t:bB):K->Prop
 |.start h|.visit h _|.older h _=>HT t h
 |.maker h _ id=>HT t h∧id≠t.id
 |.ended h _ mb=>HT t h∧(mb=0∨P mb)
 |.eY h _ mb id=>HT t h∧(mb=0∨P mb)∧id≠t.id
 |.seen h _ mb=>HT t h∧P mb
 |.turn w now=>t.ax=0∧ai w=now∧Q w
 |.dJ w now=>t.ax=0∧ai w=now∧aT w≠0∧Q w
 |.dD|.wait _|.bO=>t.ax≠0
 |.abort _ _=>True
 |.turns _ _=>False
 |_=>t.ax=0
def Ky:K->Bool
 |.dJ _ _|.turn _ _|.dD|.bO|.abort _ _|.turns _ _=>false
 |_=>true
structure iI (P:Nat->Prop) (t0 t:bB):Prop where
 id:t.id=t0.id
 bg:t.aG=t0.aG
 en:t.ax=t0.ax
 lv:t.ak=t0.ak
 ov:t.over=t0.over
 bo:t.aJ=t0.aJ∨∃ b,P b∧b ∉ t0.aJ∧t.aJ=t0.aJ++[b]
def Tl (P:Nat->Prop) (tl:List Ev) (t0 t:bB) (aP:List Ev):Prop:=(t.aJ=t0.aJ∧aP=tl)∨∃ b,P b∧b ∉ t0.aJ∧t.aJ=t0.aJ++[b]∧aP=tl++[{kind:=4,t:=t0.id,n:=b}]
def TO (N L n s d:Nat) (D:St) (P Q:Nat->Prop) (t0:bB) (tl:List Ev) (r:St×K):Prop:=∃ t c,Mid N L n s d D r.1 t c∧iI P t0 t∧Tl P tl t0 t r.1.aP∧KT P Q t0 r.2
def RT (N L n s:Nat) (D:St) (P Q:Nat->Prop) (t0:bB) (tl:List Ev) (r:St×Option K):Prop:=∃ t c d,Mid N L n s d D r.1 t c∧iI P t0 t∧Tl P tl t0 t r.1.aP∧∀ k,r.2=some k->KT P Q t0 k
section
variable {N L n s q cq d:Nat} {D τ υ aH:St} {t t0:bB} {c:dF} {P Q:Nat->Prop} {tl:List Ev}
theorem iI.refl (t:bB):iI P t t:=⟨rfl,rfl,rfl,rfl,rfl,.inl rfl⟩
theorem TO.rt {r:St×K} {n':Nat} (h:TO N L n s d D P Q t0 tl r) (hn:n<=n'):RT N L n' s D P Q t0 tl (r.1,some r.2):=by
 obtain⟨t,c,m,h1,h2,h3⟩:=h;exact⟨t,c,d,m.mono hn,h1,h2,fun k e=>by obtain rfl:=zj e;exact h3⟩
theorem xJ (e:t.ax=t0.ax) (h0:t0.ax≠0) (i:Nat):KT P Q t0 (dm t i):=by
 unfold dm;simp only
 split
 . unfold iK
   split<;>exact h0
 . exact⟨e,h0⟩
theorem yX (k:Nat):∀ (E:Nat) (τ:St) (c:dF),Mid N L n s d D τ t c->iI P t0 t->Tl P tl t0 t τ.aP->t0.ax=0->TO N L n s d D P Q t0 tl (fA s k τ E):=by
 induction k with
 |zero=>
  intro E τ c m hs hl h0;exact⟨t,c,m,hs,hl,h0⟩
 |succ k ih=>
  intro E τ c m hs hl h0;unfold fA;rw[m.ec,m.et]
  split
  . exact⟨t,c,m,hs,hl,h0⟩
  . split
    . rename_i x hx
      cases hth:x.there with
      |true=>
       simp only[if_true];exact ih (E+1) _ _ (m.tell E (τ.valueOf x.own)) hs hl h0
      |false=>
       simp only[Bool.false_eq_true,if_false];exact ih (E+1) _ c m hs hl h0
    . exact⟨t,c,m,hs,hl,hs.bg,h0⟩
theorem iI.reads {l:List (Nat×Nat×Bool)} (h:iI P t0 t):iI P t0 {t with reads:=l}:=⟨h.id,h.bg,h.en,h.lv,h.ov,h.bo⟩
theorem lu (m:Mid N L n s d D τ t c) (hs:iI P t0 t) (hl:Tl P tl t0 t τ.aP) {h:dw} (V:gp t c h) (hck:c.op.E<64) (hh:HT t0 h) (F:Nat):TO N L (n+1) s d D P Q t0 tl (τ.thn s h F):=by
 obtain⟨E,at_,thn⟩:=h;obtain⟨V,h2⟩:=V;unfold St.thn
 cases thn with
 |get=>
  simp only;have m2:=m.read E F (F !=0) V
  split<;>exact⟨_,c,m2,hs.reads,hl,hh.2⟩
 |scan k=>
  obtain⟨rfl,hhi,hp⟩:=h2;simp only at V ⊢;unfold St.scan;have m2:=m.read k F false V
  by_cases h0:F=0
  . rw[aV h0]
    exact yX _ (k+1) _ c m2 hs.reads hl hh.2
  . rw[aX h0]
    exact yX _ (k+1) _ _ (m2.tell k ((τ.read s k F false).valueOf F)) hs.reads hl hh.2
 |change=>
  simp only;rw[m.ec]
  split
  . exact⟨_,c,m.read _ F false hck,hs.reads,hl,hh.2⟩
  split
  . exact⟨_,c,m.read _ F false hck,hs.reads,hl,hh.2⟩
  split
  . exact⟨t,c,m.mono (nO _),hs,hl,hh.2⟩
  . exact⟨t,c,m.mono (nO _),hs,hl,hh.2⟩
 |judge i l=>
  simp only
  split
  . exact⟨t,c,m.mono (nO _),hs,hl,trivial⟩
  . refine⟨t,c,m.mono (nO _),hs,hl,?_⟩
    show KT P Q t0 (dm (τ.t s) (i+1));rw[m.et];exact xJ hs.en hh.2 _
theorem Bq (m:Mid N L n s d D τ t c) (hs:iI P t0 t) (hl:Tl P tl t0 t τ.aP) {h:dw} (V:gp t c h) (hck:c.op.E<64) (hh:HT t0 h) (F:Nat):TO N L (n+1) s d D P Q t0 tl (τ.visit s h F):=by
 unfold St.visit
 split
 . exact lu m hs hl V hck hh 0
 . exact⟨t,c,m.mono (nO _),hs,hl,hh⟩
theorem Ed (m:Mid N L n s d D τ t c) (hs:iI P t0 t) (hl:Tl P tl t0 t τ.aP) {h:dw} (V:gp t c h) (hck:c.op.E<64) (hh:HT t0 h) (F:Nat) {mb:Nat} (hm:mb=0∨P mb):TO N L (n+1) s d D P Q t0 tl (τ.seen s h F mb):=by
 unfold St.seen
 split
 . exact lu m hs hl V hck hh F
 . rename_i h0
   exact⟨t,c,m.mono (nO _),hs,hl,hh,hm.resolve_left h0⟩
theorem yY (m:Mid N L n s d D τ t c) (hs:iI P t0 t) (hl:Tl P tl t0 t τ.aP) (h0:t0.ax=0) (x:Bool) (F head:Nat):TO N L n s d D P Q t0 tl (τ.slot s x F head):=by
 unfold St.slot
 by_cases hl0:F=0
 . rw[aV hl0]
   have m2:=m.take;have e7:=(rF τ).2.2.2.2.2.2.1
   cases e:τ.take with
   |mk BO o=>
    rw[e] at m2 e7
    cases o with
    |none=>exact⟨t,c,m2,hs,by show Tl P tl t0 t BO.aP;rw[e7];exact hl,trivial⟩
    |some l=>exact⟨t,c,m2.vals _ _,hs,by show Tl P tl t0 t BO.aP;rw[e7];exact hl,h0⟩
 . rw[aX hl0]
   exact⟨t,c,m.vals _ _,hs,hl,h0⟩
theorem Br (m:Mid N L n s d D τ t c) (hs:iI P t0 t) (hl:Tl P tl t0 t τ.aP) (h0:t0.ax=0) (F head at_:Nat):TO N L n s d D P Q t0 tl (τ.gT s F head at_):=by
 unfold St.gT
 split
 . exact yY m hs hl h0 false F head
 . exact⟨t,c,m,hs,hl,h0⟩
theorem Ee (m:Mid N L n s d D τ t c) (hs:iI P t0 t) (hl:Tl P tl t0 t τ.aP) (F:Nat):TO N L (n+1) s d D P Q t0 tl (τ.lost F):=by
 unfold St.lost
 split
 . refine⟨t,c,m.give F,hs,?_,trivial⟩
   rw[(xq τ F).2.2.2.2.2.2.1];exact hl
 . exact⟨t,c,m.mono (nO _),hs,hl,trivial⟩
theorem Mid.Ic (m:Mid N L n s d D τ t c) (hs:t=t0) (ht:τ.aP=tl) {tq:Nat} (hto:tq<=2000) (hp:P tq):∃ t2,Mid N L (n+1) s d D (τ.bind s tq) t2 c∧iI P t0 t2∧Tl P tl t0 t2 (τ.bind s tq).aP:=by
 subst hs;obtain⟨t2,m2,-⟩:=m.bind tq hto;refine⟨t2,m2,?_⟩;have e:(τ.bind s tq).t s=t2:=m2.et;have e2:τ.t s=t:=m.et;unfold St.bind at e ⊢;rw[e2] at e ⊢
 split at e
 . rename_i h1
   rw[aV h1];rw[<-e,e2];exact⟨iI.refl t,.inl ⟨rfl,ht⟩⟩
 . rename_i h1
   rw[aX h1];have:(τ.bq s {t with aJ:=t.aJ++[tq]}).t s={t with aJ:=t.aJ++[tq]}:=by
    unfold St.t St.bq;simp only;rw[aM _ _ _ _ (by rw[m.sh.t8];exact m.s8),aV rfl];rfl
   rw[<-e,show ((τ.bq s {t with aJ:=t.aJ++[tq]}).event _).t s=(τ.bq s {t with aJ:=t.aJ++[tq]}).t s from rfl,this];exact⟨⟨rfl,rfl,rfl,rfl,rfl,.inr ⟨tq,hp,h1,rfl⟩⟩,.inr ⟨tq,hp,h1,rfl,by show τ.aP++[_]=_;rw[ht]⟩⟩
theorem Bu {o:En.Op} (h:jK o=true):o.E<64:=by
 unfold jK at h
 split at h<;>first|(cases h;done)|(simp only[gQ,zd,beq_iff_eq] at h;omega)
set_option maxHeartbeats 3200000 in
theorem MW (m:Mid N L n s 0 D D t c) {k:K} (V:uM N L t c k) (hA:Ky k=true) (hT:KT P Q t k)
 (hB:∀ id,id<=2000->id≠t.id->bA (D.word (D.place id))=2->gD (D.word (D.place id))≠0->∀ h:dw,HT t h->gD (D.word (D.place id))<=h.at_->P id) (hQ:Q (D.word 0)):RT N L (n+2) s D P Q t D.aP (D.run s k):=by
 have mt:=m.tick;have et:=m.et;have ec:=m.ec;have r0:iI P t t:=iI.refl t;have fw:Tl P D.aP t t D.tick.aP:=.inl ⟨rfl,rfl⟩;have hck:=Bu m.op
 cases k with
 |fin r=>
  exact⟨t,_,0,(m.mono (by omega)).aF {D.c s with r:=r,over:=true} ⟨by rw[ec],by rw[ec]⟩,r0,.inl ⟨rfl,rfl⟩,fun k e=>by cases e⟩
 |start h=>exact (Bq mt r0 fw V hck hT _).rt (by omega)
 |visit h F=>
  refine TO.rt (r:=(_,_)) (n:=n) ⟨t,c,mt,r0,fw,?_⟩ (by omega);show KT P Q t (D.jb s h F _);unfold St.jb;rw[et]
  split
  . exact⟨hT,.inl rfl⟩
  split
  . exact hT
  . rename_i h2
    exact⟨hT,fun e=>h2 (.inr e)⟩
 |older h F=>exact (Bq mt r0 fw V.1 hck hT _).rt (by omega)
 |maker h F id=>
  obtain⟨hT1,FM⟩:=hT;simp only[St.run]
  split
  . exact TO.rt (r:=(_,_)) (n:=n) ⟨t,c,mt,r0,fw,hT1⟩ (by omega)
  split
  . rename_i h1 h2
    refine TO.rt (r:=(_,_)) (n:=n) ⟨t,c,mt,r0,fw,hT1,.inr (hB id V.2.2 FM h2 (fun e=>h1 (.inl e)) h hT1 ?_)⟩ (by omega);exact Nat.le_of_not_lt fun e=>h1 (.inr (.inl e))
  . exact TO.rt (r:=(_,_)) (n:=n) ⟨t,c,mt,r0,fw,hT1,.inl rfl⟩ (by omega)
 |ended h F mb=>
  obtain⟨hT1,FM⟩:=hT;simp only[St.run]
  split
  . exact TO.rt (r:=(_,_)) (n:=n) ⟨t,c,mt,r0,fw,hT1⟩ (by omega)
  split
  . exact (Ed mt r0 fw V.1 hck hT1 F FM).rt (by omega)
  . rename_i h2
    refine TO.rt (r:=(_,_)) (n:=n) ⟨t,c,mt,r0,fw,hT1,FM,fun e=>h2 (.inr ?_)⟩ (by omega);rw[mt.et];exact e
 |eY h F mb id=>
  obtain⟨hT1,FM,U6⟩:=hT;simp only[St.run]
  split
  . exact (Ed mt r0 fw V.1 hck hT1 F FM).rt (by omega)
  split
  . rename_i h1 h2
    have hP:=hB id V.2.2.2 U6 h2 (fun e=>h1 (.inl e)) h hT1 (Nat.le_of_not_lt fun e=>h1 (.inr (.inl e)));obtain⟨t2,m2,f1,f2⟩:=mt.Ic (tl:=D.aP) rfl rfl V.2.2.2 hP;exact TO.rt (r:=(_,_)) ⟨t2,c,m2,f1,f2,hT1⟩ (by omega)
  . exact TO.rt (r:=(_,_)) (n:=n) ⟨t,c,mt,r0,fw,hT1⟩ (by omega)
 |seen h F mb=>
  obtain⟨hT1,FM⟩:=hT;simp only[St.run]
  split
  . exact TO.rt (r:=(_,_)) (n:=n) ⟨t,c,mt,r0,fw,hT1⟩ (by omega)
  . split
    . rename_i h1 h2
      obtain⟨t2,m2,f1,f2⟩:=mt.Ic (tl:=D.aP) rfl rfl V.2.2 FM;obtain⟨t3,m3,e1,e2,-⟩:=mt.bind mb V.2.2;have e3:t3=t2:=m3.et.symm.trans m2.et;subst e3;exact (lu m2 f1 f2 (mI V.1 e1 e2) hck hT1 F).rt (by omega)
    . exact (lu mt r0 fw V.1 hck hT1 F).rt (by omega)
 |again en=>
  obtain⟨h1,h2,x,hx,hxo⟩:=V;have ex:D.x s c.op.E=x:=by unfold St.x;rw[et,hx];rfl
  simp only[St.run,ec,ex];have m1:=m.put (gW (w:=1) hxo (by omega) h1 h2);have m2:=m1.bq (o6 m1.t1 c.op.E {x with there:=(c.op.kind !=4)} (m.t1.cell hx).1 (m.t1.cell hx).2.1 (fun _=>hxo));have e3:((D.put (af x.own 1) en).c s).op.kind=c.op.kind:=by rw[m1.ec]
  have e4:((D.put (af x.own 1) en).ed s c.op.E {x with there:=(c.op.kind !=4)})=((D.put (af x.own 1) en).bq s {t with cells:=upd t.cells c.op.E {x with there:=(c.op.kind !=4)}}):=by unfold St.ed;rw[m1.et]
  rw[e3,e4]
  split
  . exact TO.rt (r:=(_,_)) ⟨_,c,m2.vals _ _,⟨rfl,rfl,rfl,rfl,rfl,.inl rfl⟩,.inl ⟨rfl,rfl⟩,hT⟩ (by omega)
  . exact TO.rt (r:=(_,_)) ⟨_,c,m2,⟨rfl,rfl,rfl,rfl,rfl,.inl rfl⟩,.inl ⟨rfl,rfl⟩,hT⟩ (by omega)
 |own F=>
  simp only[St.run]
  split
  . exact TO.rt (r:=(_,_)) ⟨t,c,mt,r0,fw,hT⟩ (by omega)
  split
  . exact TO.rt (r:=(_,_)) ⟨t,c,mt,r0,fw,hT⟩ (by omega)
  . exact TO.rt (r:=(_,_)) ⟨t,c,mt,r0,fw,trivial⟩ (by omega)
 |fG F w id=>
  simp only[St.run]
  split
  . exact TO.rt (r:=(_,_)) ⟨t,c,mt,r0,fw,trivial⟩ (by omega)
  . exact TO.rt (r:=(_,_)) ⟨t,c,mt,r0,fw,hT⟩ (by omega)
 |claim F w=>
  obtain⟨hl,hx,hkk⟩:=V;have m1:=m.bP (o:=w) (gW (L:=L) (w:=1) hl (by omega) (lZ m.t1) (lY m.t1));have Kz:Tl P D.aP t t (D.bP (af F 1) w (mine t)).aP:=by unfold St.bP;split<;>exact .inl ⟨rfl,rfl⟩
  simp only[St.run,et]
  split
  . exact TO.rt (r:=(_,_)) ⟨t,c,m1,r0,Kz,hT⟩ (by omega)
  . have m2:=(m1.mono (nO n)).bq (o5 m1.t1 c.op.E ⟨0,F,false⟩ (.inl rfl) (.inr hl) (by simp))
    have e1:(D.bP (af F 1) w (mine t)).bF s ((D.bP (af F 1) w (mine t)).c s).op.E ⟨0,F,false⟩=(D.bP (af F 1) w (mine t)).bq s {t with cells:=(c.op.E,⟨0,F,false⟩)::t.cells,keys:=t.keys++[c.op.E]}:=by
     unfold St.bF;rw[m1.et,m1.ec]
    rw[e1,m2.ec];have r1:iI P t {t with cells:=(c.op.E,⟨0,F,false⟩)::t.cells,keys:=t.keys++[c.op.E]}:=⟨rfl,rfl,rfl,rfl,rfl,.inl rfl⟩
    split
    . exact TO.rt (r:=(_,_)) ⟨_,c,m2,r1,Kz,hT⟩ (by omega)
    . exact (yY m2 r1 Kz hT true 0 0).rt (by omega)
 |fresh F=>
  simp only[St.run,ec];exact (Br mt r0 fw hT F _ _).rt (by omega)
 |next F head at_=>exact (Br mt r0 fw hT F head _).rt (by omega)
 |free F head at_=>
  simp only[St.run]
  split
  . exact TO.rt (r:=(_,_)) ⟨t,c,mt,r0,fw,hT⟩ (by omega)
  split
  . exact (Ee mt r0 fw F).rt (by omega)
  . exact TO.rt (r:=(_,_)) ⟨t,c,mt,r0,fw,hT⟩ (by omega)
 |dB F head at_ id=>
  simp only[St.run]
  split
  . exact TO.rt (r:=(_,_)) ⟨t,c,mt,r0,fw,hT⟩ (by omega)
  . exact (Ee mt r0 fw F).rt (by omega)
 |dX x F head=>
  obtain⟨hl,hkk,hx⟩:=V;simp only[St.run,et];exact TO.rt (r:=(_,_)) ⟨t,c,m.put (gW hl (by omega) (lZ m.t1) (lY m.t1)),r0,.inl ⟨rfl,rfl⟩,hT⟩ (by omega)
 |dM x F head=>
  obtain⟨hl,hkk,hx⟩:=V;simp only[St.run];refine TO.rt (r:=(_,_)) ⟨t,c,m.put (gW hl (by omega) (by decide) qJ),r0,.inl ⟨rfl,rfl⟩,?_⟩ (by omega)
  cases x<;>exact hT
 |push F head=>
  obtain⟨hl,hh,hx,hkk⟩:=V;exact TO.rt (r:=(_,_)) ⟨t,c,m.put (oV hl hh),r0,.inl ⟨rfl,rfl⟩,hT⟩ (by omega)
 |dC F head=>
  obtain⟨hl,hh,hx,hkk⟩:=V;have m1:=m.bP (o:=head) (oW (L:=L) hkk (.inr hl));have Kz:Tl P D.aP t t (D.bP (9+c.op.E) head F).aP:=by unfold St.bP;split<;>exact .inl ⟨rfl,rfl⟩
  simp only[St.run,ec]
  split
  . exact TO.rt (r:=(_,_)) ⟨t,c,m1,r0,Kz,hT⟩ (by omega)
  . have m2:=(m1.mono (nO n)).bq (o5 m1.t1 c.op.E ⟨F,0,true⟩ (.inr hl) (.inl rfl) (fun _=>hl))
    have e1:(D.bP (9+c.op.E) head F).bF s c.op.E ⟨F,0,true⟩=(D.bP (9+c.op.E) head F).bq s {t with cells:=(c.op.E,⟨F,0,true⟩)::t.cells,keys:=t.keys++[c.op.E]}:=by
     unfold St.bF;rw[m1.et]
    rw[e1];exact TO.rt (r:=(_,_)) ⟨_,c,m2,⟨rfl,rfl,rfl,rfl,rfl,.inl rfl⟩,Kz,hT⟩ (by omega)
 |over F=>
  simp only[St.run,ec];exact TO.rt (r:=(_,_)) ⟨t,c,mt,r0,fw,hT⟩ (by omega)
 |fU F head=>
  obtain⟨hl,hh,hx,hkk⟩:=V;exact TO.rt (r:=(_,_)) ⟨t,c,m.put (oV hl hh),r0,.inl ⟨rfl,rfl⟩,hT⟩ (by omega)
 |dI F head=>
  obtain⟨hl,hh,hx,hkk⟩:=V;have m1:=m.bP (o:=head) (oW (L:=L) hkk (.inr hl));have Kz:Tl P D.aP t t (D.bP (9+c.op.E) head F).aP:=by unfold St.bP;split<;>exact .inl ⟨rfl,rfl⟩
  obtain⟨x,hx⟩:=qV.1 hx;simp only[St.run,ec]
  split
  . exact TO.rt (r:=(_,_)) ⟨t,c,m1,r0,Kz,hT⟩ (by omega)
  . have ex:(D.bP (9+c.op.E) head F).x s c.op.E=x:=by unfold St.x;rw[m1.et,hx];rfl
    rw[ex];have m2:=m1.bq (o6 m1.t1 c.op.E {x with own:=F,there:=true} (.inr hl) (m.t1.cell hx).2.1 (fun _=>hl));have e4:(D.bP (9+c.op.E) head F).ed s c.op.E {x with own:=F,there:=true}=(D.bP (9+c.op.E) head F).bq s {t with cells:=upd t.cells c.op.E {x with own:=F,there:=true}}:=by unfold St.ed;rw[m1.et]
    rw[e4];exact TO.rt (r:=(_,_)) ⟨_,c,m2,⟨rfl,rfl,rfl,rfl,rfl,.inl rfl⟩,Kz,hT⟩ (by omega)
 |draw=>
  simp only[St.run]
  split
  . exact TO.rt (r:=(_,_)) ⟨t,c,mt,r0,fw,trivial⟩ (by omega)
  split
  . exact TO.rt (r:=(_,_)) ⟨t,c,mt,r0,fw,hT,rfl,hQ⟩ (by omega)
  . rename_i h2
    exact TO.rt (r:=(_,_)) ⟨t,c,mt,r0,fw,hT,rfl,h2,hQ⟩ (by omega)
 |wait i=>
  simp only[St.run]
  split
  . refine TO.rt (r:=(_,_)) ⟨t,c,mt,r0,fw,?_⟩ (by omega)
    show KT P Q t (iK (D.tick.t s) (i+1));unfold iK
    split<;>exact hT
  split
  . exact TO.rt (r:=(_,_)) ⟨t,c,mt,r0,fw,trivial⟩ (by omega)
  . exact TO.rt (r:=(_,_)) ⟨t,_,mt.aF _ ⟨by rw[mt.ec],by rw[mt.ec]⟩,r0,fw,hT⟩ (by omega)
 |dJ w now=>cases hA
 |turn w now=>cases hA
 |dD=>cases hA
 |bO=>cases hA
 |abort e r=>cases hA
 |turns l r=>cases hA
end
def il (D:St) (b:Nat):Prop:=bA (D.word (D.place b))=3∨bA (D.word (D.place b))=4
def lim (t:bB):Nat:=if t.ax=0 then t.aG else t.ax
def pI (D:St) (t:bB) (b:Nat):Prop:=1<=b∧b<=D.aA∧b≠t.id∧(il D b∨∃ s' t',D.ag.getD s' none=some t'∧t'.id=b∧t'.ax≠0∧t'.ax<=lim t)
def kI (D:St) (w:Nat):Prop:=aT w<=D.aA∧ai w<=ai (D.word 0)∧∀ s t,D.ag.getD s none=some t->t.id=aT w->t.ax=ai w∧t.ax≠0
def PW (w:Nat) (t:bB) (k:Option K):Prop:=(∃ l r,k=some (.turns l r)∧(r.over=3∨r.over=4)∧w=pack r.over t.ax)∨((∀ l r,k≠some (.turns l r))∧((w=pack 1 0∧(t.ax=0∨k=some .dD))∨(w=pack 2 t.ax∧t.ax≠0)))
def _root_.Go.Proofs.YthicolbbmjfkfaaGreat.En.St.ig (D:St) (s:Nat):Option K:=(D.calls.getD s none).bind (·.k)
structure TI (D:St):Prop where
 uq:∀ s s' t t',D.ag.getD s none=some t->D.ag.getD s' none=some t'->t.id=t'.id->s=s'
 ip:∀ s t,D.ag.getD s none=some t->1<=t.id∧t.id<=D.aA
 bg:∀ s t,D.ag.getD s none=some t->1<=t.aG∧t.aG<=ai (D.word 0)∧t.ax<=ai (D.word 0)∧(t.ax≠0->t.aG<t.ax)
 ne:∀ s s' t t',D.ag.getD s none=some t->D.ag.getD s' none=some t'->s≠s'->t.ax≠0->t.ax≠t'.ax
 wd:∀ s t,D.ag.getD s none=some t->PW (D.word (D.place t.id)) t (D.ig s)
 dd:∀ id,1<=id->id<=D.aA->(∀ s t,D.ag.getD s none=some t->t.id≠id)->il D id
 ub:∀ id,id=0∨D.aA<id->id<=2000->D.word (D.place id)=0
 ck:kI D (D.word 0)
 kk:∀ s t k,D.ag.getD s none=some t->D.ig s=some k->(∃ l r,k=.turns l r)∨KT (pI D t) (kI D) t k
 Px:∀ s t,D.ag.getD s none=some t->D.ig s=none->t.ax=0
 bo:∀ s t,D.ag.getD s none=some t->t.aJ.Nodup∧∀ b∈t.aJ,pI D t b
section
variable {N L n s q cq d:Nat} {D τ υ aH:St} {t t0 t2 u u2:bB} {c:dF} {P P' Q Q':Nat->Prop} {tl:List Ev}
theorem KT.mono (hP:∀ b,P b->P' b) (hq:∀ w,Q w->Q' w) (e1:t2.aG=t.aG) (e2:t2.ax=t.ax) (e3:t2.id=t.id) {k:K} (V:KT P Q t k):KT P' Q' t2 k:=by
 have hh:∀ {h:dw},HT t h->HT t2 h:=by
  intro h hx;unfold HT at hx ⊢
  split at hx<;>(rw[e2];first|exact hx|(rw[e1];exact hx))
 cases k with
 |start h=>exact hh V
 |visit h l=>exact hh V
 |older h l=>exact hh V
 |maker h l id=>exact⟨hh V.1,by rw[e3];exact V.2⟩
 |ended h l mb=>exact⟨hh V.1,V.2.imp (fun x=>x) (hP mb)⟩
 |eY h l mb id=>exact⟨hh V.1,V.2.1.imp (fun x=>x) (hP mb),by rw[e3];exact V.2.2⟩
 |seen h l mb=>exact⟨hh V.1,hP mb V.2⟩
 |turn w now=>exact⟨e2.trans V.1,V.2.1,hq w V.2.2⟩
 |dJ w now=>exact⟨e2.trans V.1,V.2.1,V.2.2.1,hq w V.2.2.2⟩
 |dD=>show t2.ax≠0;rw[e2];exact V
 |wait i=>show t2.ax≠0;rw[e2];exact V
 |bO=>show t2.ax≠0;rw[e2];exact V
 |abort e r=>trivial
 |turns l r=>exact V
 |_=>exact e2.trans V
structure Rel (D τ:St) (s:Nat) (t t2:bB):Prop where
 aA:τ.aA=D.aA
 aC:τ.aC=D.aC
 ox:∀ q,q≠s->τ.ag.getD q none=D.ag.getD q none
 oc:∀ q,q≠s->τ.calls.getD q none=D.calls.getD q none
 tx:D.ag.getD s none=some t
 id:t2.id=t.id
 bg:t2.aG=t.aG
 en:t.ax≠0->t2.ax=t.ax
 now:ai (D.word 0)<=ai (τ.word 0)
 st:∀ b,il D b->il τ b
 al:τ.ag.getD s none=some t2∨(τ.ag.getD s none=none∧il τ t.id)
theorem Rel.place (aa:Rel D τ s t t2) (id:Nat):τ.place id=D.place id:=by unfold St.place;rw[aa.aC]
theorem Rel.alive (aa:Rel D τ s t t2) {q:Nat} (h:τ.ag.getD q none=some u):(q≠s∧D.ag.getD q none=some u)∨(q=s∧u=t2):=by
 by_cases e:q=s
 . subst e
   rcases aa.al with h2|h2
   . rw[h] at h2;exact .inr ⟨rfl,zj h2⟩
   . rw[h] at h2;cases h2.1
 . rw[aa.ox q e] at h;exact .inl ⟨e,h⟩
theorem Rel.bnd (aa:Rel D τ s t t2) {b:Nat} (h:pI D u b) (hl:lim u<=lim u2) (hi:u2.id=u.id):pI τ u2 b:=by
 obtain⟨h1,h2,h3,h4⟩:=h;refine⟨h1,by rw[aa.aA];exact h2,by rw[hi];exact h3,?_⟩
 rcases h4 with h4|⟨s',t',g1,g2,g3,g4⟩
 . exact .inl (aa.st b h4)
 . by_cases e:s'=s
   . subst e
     rw[aa.tx] at g1;obtain rfl:=zj g1
     rcases aa.al with h5|h5
     . exact .inr ⟨s',t2,h5,aa.id.trans g2,by rw[aa.en g3];exact g3,by rw[aa.en g3];omega⟩
     . exact .inl (by rw[<-g2];exact h5.2)
   . exact .inr ⟨s',t',by rw[aa.ox s' e];exact g1,g2,g3,by omega⟩
theorem Rel.ck (aa:Rel D τ s t t2) {w:Nat} (h:kI D w):kI τ w:=by
 obtain⟨h1,h2,h3⟩:=h;refine⟨by rw[aa.aA];exact h1,eP h2 aa.now,fun q u hu hi=>?_⟩
 rcases aa.alive hu with ⟨_,hq⟩|⟨rfl,rfl⟩
 . exact h3 q u hq hi
 . obtain⟨g1,g2⟩:=h3 q t aa.tx (aa.id.symm.trans hi)
   rw[aa.en g2];exact⟨g1,g2⟩
theorem TI.next (h:TI D) (aa:Rel D τ s t t2)
 (hbg:t2.ax<=ai (τ.word 0)∧(t2.ax≠0->t2.aG<t2.ax))
 (hne:t2.ax=t.ax∨ai (D.word 0)<t2.ax)
 (hwo:∀ q u,q≠s->D.ag.getD q none=some u->PW (D.word (D.place u.id)) u (D.ig q)->PW (τ.word (D.place u.id)) u (D.ig q))
 (hws:τ.ag.getD s none=some t2->PW (τ.word (D.place t.id)) t2 (τ.ig s))
 (hub:∀ id,id=0∨D.aA<id->id<=2000->τ.word (D.place id)=0)
 (hck:kI τ (τ.word 0))
 (hkk:∀ k,τ.ag.getD s none=some t2->τ.ig s=some k->(∃ l r,k=.turns l r)∨KT (pI τ t2) (kI τ) t2 k)
 (hid:τ.ag.getD s none=some t2->τ.ig s=none->t2.ax=0)
 (Ll:t2.aJ.Nodup∧∀ b∈t2.aJ,pI τ t2 b):TI τ:=by
 have hko:∀ q,q≠s->τ.ig q=D.ig q:=fun q hq=>by unfold St.ig;rw[aa.oc q hq]
 have hT:=h.bg s t aa.tx;refine⟨fun q q' u u' hu hu' hi=>?_,fun q u hu=>?_,fun q u hu=>?_,fun q q' u u' hu hu' hq he=>?_,fun q u hu=>?_,fun id h1 h2 h3=>?_,fun id h1 h2=>?_,hck,fun q u k hu V=>?_,fun q u hu V=>?_,fun q u hu=>?_⟩
 . rcases aa.alive hu with ⟨e,g⟩|⟨rfl,rfl⟩<;>rcases aa.alive hu' with ⟨e',g'⟩|⟨rfl,rfl⟩
   . exact h.uq q q' u u' g g' hi
   . exact absurd (h.uq q q' u t g aa.tx (hi.trans aa.id)) e
   . exact absurd (h.uq q q' t u' aa.tx g' (aa.id.symm.trans hi)).symm e'
   . rfl
 . rw[aa.aA]
   rcases aa.alive hu with ⟨e,g⟩|⟨rfl,rfl⟩
   . exact h.ip q u g
   . rw[aa.id];exact h.ip q t aa.tx
 . rcases aa.alive hu with ⟨e,g⟩|⟨rfl,rfl⟩
   . have h1:=h.bg q u g
     have:=aa.now;exact⟨h1.1,by omega,by omega,h1.2.2.2⟩
   . have:=aa.now
     rw[aa.bg] at hbg ⊢;exact⟨hT.1,by omega,hbg⟩
 . rcases aa.alive hu with ⟨e,g⟩|⟨rfl,rfl⟩<;>rcases aa.alive hu' with ⟨e',g'⟩|⟨rfl,rfl⟩
   . exact h.ne q q' u u' g g' hq he
   . have:=h.bg q u g
     rcases hne with hne|hne
     . rw[hne];exact h.ne q q' u t g aa.tx hq he
     . omega
   . have:=h.bg q' u' g'
     rcases hne with hne|hne
     . rw[hne] at he ⊢;exact h.ne q q' t u' aa.tx g' hq he
     . omega
   . exact absurd rfl hq
 . rw[aa.place]
   rcases aa.alive hu with ⟨e,g⟩|⟨rfl,rfl⟩
   . rw[hko q e];exact hwo q u e g (h.wd q u g)
   . rw[aa.id];exact hws hu
 . rw[aa.aA] at h2
   by_cases e:id=t.id
   . rcases aa.al with h5|h5
     . exact absurd (aa.id.trans e.symm) (h3 s t2 h5)
     . rw[e];exact h5.2
   . refine aa.st id (h.dd id h1 h2 (fun q u hu hi=>?_))
     by_cases eq:q=s
     . subst eq
       rw[aa.tx] at hu;obtain rfl:=zj hu;exact e hi.symm
     . exact h3 q u (by rw[aa.ox q eq];exact hu) hi
 . rw[aa.aA] at h1
   rw[aa.place];exact hub id h1 h2
 . rcases aa.alive hu with ⟨e,g⟩|⟨rfl,rfl⟩
   . rw[hko q e] at V
     exact (h.kk q u k g V).imp (fun x=>x) (fun x=>x.mono (fun b Z=>aa.bnd Z (zr _) rfl) (fun w hw=>aa.ck hw) rfl rfl rfl)
   . exact hkk k hu V
 . rcases aa.alive hu with ⟨e,g⟩|⟨rfl,rfl⟩
   . rw[hko q e] at V;exact h.Px q u g V
   . exact hid hu V
 . rcases aa.alive hu with ⟨e,g⟩|⟨rfl,rfl⟩
   . exact⟨(h.bo q u g).1,fun b Z=>aa.bnd ((h.bo q u g).2 b Z) (zr _) rfl⟩
   . exact Ll
theorem dU {x e:Nat} (h:x<8):bA (pack x e)=x:=by unfold bA pack;omega
theorem Ie {x e:Nat} (h:x<8):gD (pack x e)=e:=by unfold gD pack;omega
theorem TI.Sg (h:TI D) {id:Nat} (hid:id<=2000) (h2:bA (D.word (D.place id))=2):∃ s t,D.ag.getD s none=some t∧t.id=id∧t.ax≠0∧t.ax=gD (D.word (D.place id)):=by
 by_cases h0:id=0∨D.aA<id
 . rw[h.ub id h0 hid] at h2;cases h2
 . refine Classical.byContradiction fun hn=>?_
   have h3:∀ s t,D.ag.getD s none=some t->t.id≠id:=by
    intro s t ht hi;subst hi
    rcases h.wd s t ht with ⟨l,r,_,h4,h5⟩|⟨_,h4|h4⟩
    . rw[h5,dU (by omega)] at h2;omega
    . rw[h4.1,dU (by omega)] at h2;omega
    . exact hn ⟨s,t,ht,rfl,h4.2,by rw[h4.1,Ie (by omega)]⟩
   rcases h.dd id (by omega) (by omega) h3 with h4|h4<;>omega
theorem HT.lim {h:dw} (hh:HT t h):h.at_=lim t:=by
 unfold HT at hh;unfold Cw.lim
 split at hh
 . rw[aX hh.2];exact hh.1
 . rw[aV hh.2];exact hh.1
theorem TI.hB (h:TI D):∀ id,id<=2000->id≠t.id->bA (D.word (D.place id))=2->gD (D.word (D.place id))≠0->∀ h:dw,HT t h->gD (D.word (D.place id))<=h.at_->pI D t id:=by
 intro id hid hne h2 h0 hu hh hl;obtain⟨s,t',g1,g2,g3,g4⟩:=h.Sg hid h2;have:=h.ip s t' g1;refine⟨by omega,by omega,hne,.inr ⟨s,t',g1,g2,g3,?_⟩⟩;rw[g4,<-hh.lim];exact hl
end
section
variable {N L n s q cq d kd:Nat} {D τ υ aH az:St} {t t0 t2 u u2:bB} {c c2:dF} {r:ic} {k:K} {ok:Option K}
theorem Stp.w (p:Stp N L n s D aH kd r t c k az ok t2 c2) (i:Nat):aH.word i=az.word i:=by
 obtain⟨l,cs,ts,tl,e⟩:=p.e1;rw[e];rfl
theorem Stp.runs (p:Stp N L n s D aH kd r t c k az ok t2 c2):az.words=setW (D.aF s {c with waits:=false}) (wr (D.aF s {c with waits:=false}) s k)∧az.aC=D.aC:=by
 have:=rP (D.aF s {c with waits:=false}) s k;rw[p.run] at this;exact this
theorem Stp.aC (p:Stp N L n s D aH kd r t c k az ok t2 c2):aH.aC=D.aC:=by
 obtain⟨l,cs,ts,tl,e⟩:=p.e1;rw[e];exact p.runs.2
theorem Stp.aA (p:Stp N L n s D aH kd r t c k az ok t2 c2):aH.aA=D.aA:=by
 obtain⟨l,cs,ts,tl,e⟩:=p.e1;obtain⟨d,m2⟩:=p.m2;rw[e];exact m2.md
theorem Stp.vS (p:Stp N L n s D aH kd r t c k az ok t2 c2):D.ig s=some k:=by unfold St.ig;rw[p.ca];exact p.ck
theorem Stp.jG (p:Stp N L n s D aH kd r t c k az ok t2 c2) {k':K} (e:ok=some k'):aH.ig s=some k':=by unfold St.ig;rw[(p.go k' e).2.2.1];rfl
theorem Stp.Fp (p:Stp N L n s D aH kd r t c k az ok t2 c2) (e:ok=none):aH.ig s=none:=by unfold St.ig;rw[(p.no e).2.2.1];rfl
theorem Stp.tt (p:Stp N L n s D aH kd r t c k az ok t2 c2) {x:bB} (e:az.ag.getD s none=some x):t2=x:=by
 obtain⟨d,m2⟩:=p.m2;rw[m2.tx] at e;exact zj e
theorem Stp.p8 (p:Stp N L n s D aH kd r t c k az ok t2 c2) (h:wr (D.aF s {c with waits:=false}) s k=none) (i:Nat):aH.word i=D.word i:=by
 rw[p.w];have e:=p.runs.1;rw[h] at e;exact o7 e i
theorem Stp.iV (p:Stp N L n s D aH kd r t c k az ok t2 c2) {j v:Nat} (h:wr (D.aF s {c with waits:=false}) s k=some (j,v)) (i:Nat):(i≠j->aH.word i=D.word i)∧(j<D.words.length->aH.word j=v):=by
 have e:=p.runs.1;rw[h] at e;refine⟨fun hi=>?_,fun hj=>?_⟩
 . rw[p.w];exact gN e i hi
 . rw[p.w];exact yR e hj
theorem MX (V:uM N L t c k) (hA:Ky k=true) (et:D.t s=t) (ec:D.c s=c) {i v:Nat} (h:wr D s k=some (i,v)) (hck:c.op.E<64):9<=i∧i<73+N*3:=by
 have hin:∀ {l w},LK N l->w<3->9<=af l w∧af l w<73+N*3:=fun {l w} hl hw=>by have:=hl.aj;unfold af;omega
 cases k with
 |again e=>
  obtain⟨h1,h2,x,hx,hxo⟩:=V;have ex:D.x s c.op.E=x:=by unfold St.x;rw[et,hx];rfl
  simp only[wr,ec,ex] at h;obtain⟨rfl,-⟩:=gZ _ _ _ _ ▸ zj h;exact hin hxo (by omega)
 |claim l w=>
  simp only[wr] at h
  split at h
  . obtain⟨rfl,-⟩:=gZ _ _ _ _ ▸ zj h
    exact hin V.1 (by omega)
  . cases h
 |dX x l h'=>
  obtain⟨rfl,-⟩:=gZ _ _ _ _ ▸ zj h;exact hin V.1 (by omega)
 |dM x l h'=>
  obtain⟨rfl,-⟩:=gZ _ _ _ _ ▸ zj h;exact hin V.1 (by omega)
 |push l h'=>
  obtain⟨rfl,-⟩:=gZ _ _ _ _ ▸ zj h;exact hin V.1 (by omega)
 |fU l h'=>
  obtain⟨rfl,-⟩:=gZ _ _ _ _ ▸ zj h;exact hin V.1 (by omega)
 |dC l h'=>
  simp only[wr,ec] at h
  split at h
  . obtain⟨rfl,-⟩:=gZ _ _ _ _ ▸ zj h
    omega
  . cases h
 |dI l h'=>
  simp only[wr,ec] at h
  split at h
  . obtain⟨rfl,-⟩:=gZ _ _ _ _ ▸ zj h
    omega
  . cases h
 |dJ w now=>cases hA
 |turn w now=>cases hA
 |dD=>cases hA
 |bO=>cases hA
 |abort e r=>cases hA
 |turns l r=>cases hA
 |_=>cases h
theorem vC (hA:Ky k=true) (h:(D.run s k).2=none):∃ r,k=.fin r:=by
 cases k with
 |fin r=>exact⟨r,rfl⟩
 |dJ w now=>cases hA
 |turn w now=>cases hA
 |dD=>cases hA
 |bO=>cases hA
 |abort e r=>cases hA
 |turns l r=>cases hA
 |start h'=>cases h
 |visit h' l=>cases h
 |older h' l=>cases h
 |fresh l=>cases h
 |next l a b=>cases h
 |push l a=>cases h
 |over l=>cases h
 |fU l a=>cases h
 |dX x l a=>cases h
 |dM x l a=>cases h
 |again e=>cases h
 |_=>simp only[St.run] at h;repeat (split at h<;>first|(cases h;done)|skip)
theorem TI.Ig (h:TI D) (hw:WF N L n D) (p:Stp N L n s D aH kd r t c k az ok t2 c2) (hA:Ky k=true):TI aH∧iI (pI D t) t t2∧Tl (pI D t) D.aP t t2 az.aP∧aH.ag.getD s none=some t2:=by
 have hk0:=p.vS;have yZ:KT (pI D t) (kI D) t k:=by
  rcases h.kk s t k p.tx hk0 with ⟨l,r,rfl⟩|hx
  . cases hA
  . exact hx
 have hnt:∀ l r,k≠.turns l r:=by rintro l r rfl;cases hA
 have hrt:=MW (P:=pI D t) (Q:=kI D) p.m p.xI hA yZ h.hB h.ck;rw[p.run] at hrt;obtain⟨t',c',d',m',hs,hl,hn⟩:=hrt;have e:=p.tt m'.tx;subst e;have hck:c.op.E<64:=Bu p.m.op;have hwd:∀ i,(i<9∨73+N*3<=i)->aH.word i=D.word i:=by
  intro i hi
  cases e:wr (D.aF s {c with waits:=false}) s k with
  |none=>exact p.p8 e i
  |some jv=>
   obtain⟨j,v⟩:=jv;have:=MX p.xI hA p.m.et p.m.ec e hck;exact (p.iV e i).1 (by omega)
 have hpl:∀ id,aH.word (D.place id)=D.word (D.place id):=fun id=>hwd _ (by rw[hw.sh.place];omega)
 have h0:=hwd 0 (by omega);have hal:aH.ag.getD s none=some t2:=by
  cases ok with
  |some k'=>exact (p.go k' rfl).2.2.2.1
  |none=>
   obtain⟨r',hr'⟩:=vC hA (by rw[p.run]);subst hr'
   rcases (p.no rfl).2.2.2 with ⟨_,g,_⟩|⟨g,_⟩
   . exact g
   . exfalso
     obtain⟨d,m2⟩:=p.m2;have e1:=p.run;simp only[St.run] at e1;obtain⟨e1,-⟩:=gZ _ _ _ _ ▸ e1;have e2:(az.c s).r.over=0:=by
      rw[<-e1];unfold St.finish St.c St.aF;simp only;rw[aM _ _ _ _ (by show s<(D.calls.set s _).length;rw[pz,hw.sh.c8];exact p.m.s8),aV rfl];exact p.xI.1
     rw[m2.ec] at e2;exact g e2
 have hpl':∀ id,aH.place id=D.place id:=fun id=>by unfold St.place;rw[p.aC]
 have aa:Rel D aH s t t2:=⟨p.aA,p.aC,p.ox,p.oc,p.tx,hs.id,hs.bg,fun _=>hs.en,by rw[h0];exact zr _,fun b Z=>by unfold il at Z ⊢;rw[hpl',hpl];exact Z,.inl hal⟩
 have hlim:lim t2=lim t:=by unfold lim;rw[hs.en,hs.bg]
 have hbg:=h.bg s t p.tx;refine⟨h.next aa ⟨by rw[hs.en,h0];exact hbg.2.2.1,by rw[hs.en,hs.bg];exact hbg.2.2.2⟩ (.inl hs.en) (fun q u _ _ hp=>by rw[hpl];exact hp) (fun _=>?_) (fun id h1 h2=>by rw[hpl];exact h.ub id h1 h2) (by rw[h0];exact aa.ck h.ck) (fun k' _ hk'=>?_) (fun _ hk'=>?_) ?_,hs,hl,hal⟩
 . rw[hpl]
   have hp:=h.wd s t p.tx;rw[hk0] at hp
   rcases hp with ⟨l,r,e,_⟩|⟨_,hp⟩
   . exact absurd (zj e) (hnt l r)
   . refine .inr ⟨fun l r e=>?_,?_⟩
     . cases ok with
       |none=>rw[p.Fp rfl] at e;cases e
       |some k'=>
        rw[p.jG rfl] at e;obtain rfl:=zj e;exact hn _ rfl
     . rw[hs.en]
       refine hp.imp (fun x=>⟨x.1,.inl (x.2.resolve_right (fun e=>?_))⟩) (fun x=>x);obtain rfl:=zj e
       cases hA
 . cases ok with
   |none=>rw[p.Fp rfl] at hk';cases hk'
   |some k2=>
    rw[p.jG rfl] at hk';obtain rfl:=zj hk';exact .inr ((hn _ rfl).mono (fun b Z=>aa.bnd Z (Nat.le_of_eq hlim.symm) hs.id) (fun w hw=>aa.ck hw) hs.bg hs.en hs.id)
 . cases ok with
   |some k2=>rw[p.jG rfl] at hk';cases hk'
   |none=>
    obtain⟨r',rfl⟩:=vC hA (by rw[p.run]);rw[hs.en];exact yZ
 . have Z:=h.bo s t p.tx
   have hb2:∀ b,pI D t b->pI aH t2 b:=fun b Z=>aa.bnd Z (Nat.le_of_eq hlim.symm) hs.id
   rcases hs.bo with e|⟨b,h1,h2,e⟩
   . rw[e];exact⟨Z.1,fun b x=>hb2 b (Z.2 b x)⟩
   . rw[e]
     refine⟨?_,fun b' x=>?_⟩
     . rw[List.nodup_append]
       refine⟨Z.1,by simp,fun a ha b' hb' e9=>?_⟩;rw[List.mem_singleton] at hb';rw[hb'] at e9;rw[e9] at ha;exact h2 ha
     . rw[List.mem_append] at x
       rcases x with x|x
       . exact hb2 b' (Z.2 b' x)
       . simp at x;subst x;exact hb2 b' h1
end
section
variable {N L n s q cq d kd:Nat} {D τ υ aH az:St} {t t0 t2 u u2:bB} {c c2:dF} {r:ic} {k:K} {ok:Option K}
theorem TI.xK (h:TI D) (p:Stp N L n s D aH kd r t c k az ok t2 c2) (hid:t2.id=t.id) (hbg:t2.aG=t.aG) (hen:t2.ax=t.ax) (Ll:t2.aJ=t.aJ) (h0:aH.word 0=D.word 0) (hst:∀ b,il D b->il aH b)
 (hal:aH.ag.getD s none=some t2∨(aH.ag.getD s none=none∧il aH t.id))
 (hwo:∀ q u,q≠s->D.ag.getD q none=some u->PW (D.word (D.place u.id)) u (D.ig q)->PW (aH.word (D.place u.id)) u (D.ig q))
 (hws:aH.ag.getD s none=some t2->PW (aH.word (D.place t.id)) t2 (aH.ig s))
 (hub:∀ id,id=0∨D.aA<id->id<=2000->aH.word (D.place id)=0)
 (hkk:∀ k',aH.ig s=some k'->(∃ l r,k'=.turns l r)∨KT (pI D t) (kI D) t k')
 (Si:aH.ag.getD s none=some t2->aH.ig s=none->t.ax=0):TI aH:=by
 have aa:Rel D aH s t t2:=⟨p.aA,p.aC,p.ox,p.oc,p.tx,hid,hbg,fun _=>hen,by rw[h0];exact zr _,hst,hal⟩
 have hlim:lim t2=lim t:=by unfold lim;rw[hen,hbg]
 have Z:=h.bg s t p.tx;refine h.next aa ⟨by rw[hen,h0];exact Z.2.2.1,by rw[hen,hbg];exact Z.2.2.2⟩ (.inl hen) hwo hws hub (by rw[h0];exact aa.ck h.ck) (fun k' _ hk'=>?_) (fun ha hk'=>by rw[hen];exact Si ha hk') ?_
 . exact (hkk k' hk').imp (fun x=>x) (fun x=>x.mono (fun b Z=>aa.bnd Z (Nat.le_of_eq hlim.symm) hid) (fun w hw=>aa.ck hw) hbg hen hid)
 . have Z:=h.bo s t p.tx
   rw[Ll];exact⟨Z.1,fun b x=>aa.bnd (Z.2 b x) (Nat.le_of_eq hlim.symm) hid⟩
theorem rR {N:Nat} {a b:Nat} (h:D.place a=D.place b):a=b:=by unfold St.place at h;omega
theorem zf (D:St) (w:Nat):(D.bT w).ag=D.ag∧(D.bT w).aP=D.aP∧(D.bT w).calls=D.calls:=by
 unfold St.bT St.bP;split<;>exact⟨rfl,rfl,rfl⟩
theorem lH (D:St) (i a b:Nat):(D.bP i a b).ag=D.ag∧(D.bP i a b).aP=D.aP∧(D.bP i a b).calls=D.calls:=by
 unfold St.bP;split<;>exact⟨rfl,rfl,rfl⟩
theorem TI.Ih (h:TI D) (hw:WF N L n D) (p:Stp N L n s D aH kd r t c k az ok t2 c2) {w:Nat} (hlo:aT w≠0) (hlm:aT w<=2000) (hck:∀ s t,D.ag.getD s none=some t->t.id=aT w->t.ax=ai w∧t.ax≠0)
 (hwr:wr (D.aF s {c with waits:=false}) s k=if D.word (D.place (aT w))=pack 1 0 then some (D.place (aT w),pack 2 (ai w)) else none):
 aH.word 0=D.word 0∧(∀ b,il D b->il aH b)∧(∀ id,id=0∨D.aA<id->id<=2000->aH.word (D.place id)=0)∧
 ∀ q u ko,D.ag.getD q none=some u->PW (D.word (D.place u.id)) u ko->PW (aH.word (D.place u.id)) u ko:=by
 have hpl':∀ id,aH.place id=D.place id:=fun id=>by unfold St.place;rw[p.aC]
 by_cases hf:D.word (D.place (aT w))=pack 1 0
 . rw[aV hf] at hwr
   have hlen:D.place (aT w)<D.words.length:=by rw[hw.sh.place,hw.sh.nw];omega
   have hj:=(p.iV hwr 0).2 hlen;have hne:∀ id,id≠aT w->aH.word (D.place id)=D.word (D.place id):=fun id hi=>(p.iV hwr _).1 (fun e=>hi (rR (N:=N) e))
   refine⟨(p.iV hwr 0).1 (by rw[hw.sh.place];omega),fun b Z=>?_,fun id h1 h2=>?_,fun q u ko hu hp=>?_⟩
   . unfold il at Z ⊢
     rw[hpl']
     by_cases e:b=aT w
     . subst e;rw[hf,dU (by omega)] at Z;omega
     . rw[hne b e];exact Z
   . have e:id≠aT w:=by
      rintro rfl;have:=h.ub _ h1 h2;rw[hf] at this;cases this
     rw[hne id e];exact h.ub id h1 h2
   . by_cases e:u.id=aT w
     . rw[e,hj]
       rw[e,hf] at hp;obtain⟨g1,g2⟩:=hck q u hu e
       rcases hp with ⟨l,r,_,h4,h5⟩|⟨g3,_⟩
       . have:bA (pack 1 0)=r.over:=by rw[h5,dU (by omega)]
         rw[dU (by omega)] at this;omega
       . exact .inr ⟨g3,.inr ⟨by rw[g1],g2⟩⟩
     . rw[hne _ e];exact hp
 . rw[aX hf] at hwr
   have hn:=p.p8 hwr;exact⟨hn 0,fun b Z=>by unfold il at Z ⊢;rw[hpl',hn];exact Z,fun id h1 h2=>by rw[hn];exact h.ub id h1 h2,fun q u ko _ hp=>by rw[hn];exact hp⟩
theorem TI.vD (h:TI D) (hw:WF N L n D) {w now:Nat} (p:Stp N L n s D aH kd r t c (.dJ w now) az ok t2 c2):TI aH∧t2=t∧az.aP=D.aP:=by
 have yZ:KT (pI D t) (kI D) t (.dJ w now):=by
  rcases h.kk s t _ p.tx p.vS with ⟨l,r,e⟩|hx
  . cases e
  . exact hx
 obtain⟨k1,k2,k3,k4⟩:=yZ;have e1:=p.run;simp only[St.run] at e1;obtain⟨e1,e2⟩:=gZ _ _ _ _ ▸ e1;obtain⟨f1,f2,f3⟩:=zf (D.aF s {c with waits:=false}) w;rw[e1] at f1 f2;have et:t2=t:=p.tt (by rw[f1];exact p.tx);subst et;obtain⟨a1,a2,a3,a4⟩:=h.Ih hw p k3 p.xI.2.1 k4.2.2 rfl;refine⟨h.xK p rfl rfl rfl rfl a1 a2 (.inl (p.go _ e2.symm).2.2.2.1) (fun q u _ hu hp=>a4 q u _ hu hp) (fun _=>?_) a3 (fun k' hk'=>?_) (fun _ hk'=>?_),rfl,f2⟩
 . have hp:=a4 s t2 _ p.tx (h.wd s t2 p.tx)
   rw[p.vS] at hp;rw[p.jG e2.symm]
   rcases hp with ⟨l,r,e,_⟩|⟨_,hp⟩
   . cases e
   . exact .inr ⟨fun l r e=>(by cases e),hp.imp (fun x=>⟨x.1,.inl k1⟩) (fun x=>x)⟩
 . rw[p.jG e2.symm] at hk'
   obtain rfl:=zj hk';exact .inr ⟨k1,k2,k4⟩
 . rw[p.jG e2.symm] at hk';cases hk'
theorem TI.vE (h:TI D) (hw:WF N L n D) (p:Stp N L n s D aH kd r t c .dD az ok t2 c2):TI aH∧t2=t∧az.aP=D.aP:=by
 have yZ:KT (pI D t) (kI D) t .dD:=by
  rcases h.kk s t _ p.tx p.vS with ⟨l,r,e⟩|hx
  . cases e
  . exact hx
 have hi:=h.ip s t p.tx;have hm:=hw.sh.md;have hlt:aT (aO t.ax t.id)=t.id:=by unfold aT aO;omega
 have nP:ai (aO t.ax t.id)=t.ax:=by unfold ai aO;omega
 have e1:=p.run;simp only[St.run] at e1;obtain⟨e1,e2⟩:=gZ _ _ _ _ ▸ e1;rw[p.m.et] at e1 e2;obtain⟨f1,f2,f3⟩:=zf (D.aF s {c with waits:=false}) (aO t.ax t.id);rw[e1] at f1 f2;have et:t2=t:=p.tt (by rw[f1];exact p.tx);subst et;have e3:((D.aF s {c with waits:=false}).bT (aO t2.ax t2.id)).t s=t2:=by
  rw[e1];obtain⟨d,m2⟩:=p.m2;exact m2.et
 rw[e3] at e2
 obtain ⟨a1, a2, a3, a4⟩ := h.Ih hw p (w := aO t2.ax t2.id) (by omega) (by omega) (fun q u hu hq => by
   rw[hlt] at hq
   have:=h.uq q s u t2 hu p.tx hq
   subst this
   rw[p.tx] at hu
   obtain rfl:=zj hu
   exact⟨nP.symm,yZ⟩) (by simp only[wr];rw[p.m.et];rfl)
 have hpw:aH.word (D.place t2.id)=pack 2 t2.ax:=by
  have hp:=h.wd s t2 p.tx;rw[p.vS] at hp;have hwr:wr (D.aF s {c with waits:=false}) s .dD=if D.word (D.place t2.id)=pack 1 0 then some (D.place t2.id,pack 2 t2.ax) else none:=by
   simp only[wr];rw[p.m.et,hlt,nP];rfl
  rcases hp with ⟨l,r,e,_⟩|⟨_,⟨g1,_⟩|⟨g1,_⟩⟩
  . cases e
  . rw[aV g1] at hwr
    exact (p.iV hwr 0).2 (by rw[hw.sh.place,hw.sh.nw];omega)
  . rw[aX (by rw[g1];unfold pack;omega)] at hwr
    rw[p.p8 hwr];exact g1
 have hj:∀ l r,dm t2 0≠.turns l r:=by
  intro l r e;unfold dm at e;simp only at e
  split at e
  . unfold iK at e
    split at e<;>cases e
  . cases e
 refine⟨h.xK p rfl rfl rfl rfl a1 a2 (.inl (p.go _ e2.symm).2.2.2.1) (fun q u _ hu hp=>a4 q u _ hu hp) (fun _=>?_) a3 (fun k' hk'=>?_) (fun _ hk'=>?_),rfl,f2⟩
 . rw[p.jG e2.symm,hpw]
   exact .inr ⟨fun l r e=>hj l r (zj e),.inr ⟨rfl,yZ⟩⟩
 . rw[p.jG e2.symm] at hk'
   obtain rfl:=zj hk';exact .inr (xJ rfl yZ 0)
 . rw[p.jG e2.symm] at hk';cases hk'
theorem TI.oO (h:TI D) (hw:WF N L n D) (p:Stp N L n s D aH kd r t c k az ok t2 c2) {x:Nat} (hx:x=3∨x=4) (hwr:wr (D.aF s {c with waits:=false}) s k=some (D.place t.id,pack x t.ax))
 (hid:t2.id=t.id) (hbg:t2.aG=t.aG) (hen:t2.ax=t.ax) (Ll:t2.aJ=t.aJ) {l:List wG} {r':ic} (hr:r'.over=x) (hok:ok=some (.turns l r')):TI aH:=by
 have hpl':∀ id,aH.place id=D.place id:=fun id=>by unfold St.place;rw[p.aC]
 have hi:=h.ip s t p.tx;have hm:=hw.sh.md;have hlen:D.place t.id<D.words.length:=by rw[hw.sh.place,hw.sh.nw];omega
 have hj:=(p.iV hwr 0).2 hlen;have hne:∀ id,id≠t.id->aH.word (D.place id)=D.word (D.place id):=fun id hi=>(p.iV hwr _).1 (fun e=>hi (rR (N:=N) e))
 refine h.xK p hid hbg hen Ll ((p.iV hwr 0).1 (by rw[hw.sh.place];omega)) (fun b Z=>?_) (.inl (p.go _ hok).2.2.2.1) (fun q u hq hu hp=>?_) (fun _=>?_) (fun id h1 h2=>?_) (fun k' hk'=>?_) (fun _ hk'=>?_)
 . unfold il at Z ⊢
   rw[hpl']
   by_cases e:b=t.id
   . rw[e,hj,dU (by omega)];exact hx
   . rw[hne b e];exact Z
 . rw[hne _ (fun e=>hq (h.uq q s u t hu p.tx e))];exact hp
 . rw[p.jG hok,hj]
   exact .inl ⟨l,r',rfl,by rw[hr];exact hx,by rw[hr,hen]⟩
 . rw[hne id (by omega)];exact h.ub id h1 h2
 . rw[p.jG hok] at hk'
   obtain rfl:=zj hk';exact .inl ⟨_,_,rfl⟩
 . rw[p.jG hok] at hk';cases hk'
theorem xL (hs:s<D.ag.length) (ht:D.ag.getD s none=some t) (e:Ev):(D.bW s e).ag.getD s none=some {t with over:=true}∧(D.bW s e).aP=if t.over then D.aP else D.aP++[e]:=by
 have et:D.t s=t:=by unfold St.t;rw[ht];rfl
 unfold St.bW;rw[et]
 by_cases ho:t.over=true
 . rw[aV ho,aV ho]
   refine⟨?_,rfl⟩;rw[ht]
   cases t;simp at ho;simp[ho]
 . rw[aX ho,aX ho]
   refine⟨?_,rfl⟩;show (D.ag.set s _).getD s none=_;rw[aM _ _ _ _ hs,aV rfl]
theorem TI.l9 (h:TI D) (hw:WF N L n D) (p:Stp N L n s D aH kd r t c .bO az ok t2 c2):TI aH∧t2={t with over:=true}∧az.aP=(if t.over then D.aP else D.aP++[{kind:=5,t:=t.id}])∧ok=some (.turns (dY D t) {over:=3}):=by
 have yZ:KT (pI D t) (kI D) t .bO:=by
  rcases h.kk s t _ p.tx p.vS with ⟨l,r,e⟩|hx
  . cases e
  . exact hx
 have e1:=p.run;simp only[St.run] at e1;obtain⟨e1,e2⟩:=gZ _ _ _ _ ▸ e1;rw[p.m.et] at e1 e2;obtain⟨f1,f2⟩:=xL (D:=(D.aF s {c with waits:=false}).put ((D.aF s {c with waits:=false}).place t.id) (pack 3 t.ax)) (s:=s) (t:=t) (by show s<D.ag.length;rw[hw.sh.t8];exact p.m.s8) p.tx {kind:=5,t:=t.id};rw[e1] at f1 f2;have et:=p.tt f1;subst et;exact⟨h.oO hw p (x:=3) (.inl rfl) (by simp only[wr];rw[p.m.et];rfl) rfl rfl rfl rfl rfl e2.symm,rfl,f2,e2.symm⟩
theorem TI.nA (h:TI D) (hw:WF N L n D) {e rs:Nat} (p:Stp N L n s D aH kd r t c (.abort e rs) az ok t2 c2):TI aH∧t2={t with over:=true}∧az.aP=(if t.over then D.aP else D.aP++[{kind:=6,t:=t.id,res:={ay:=rs}}])∧ok=some (.turns (eU D t) {e:=e,over:=4,ay:=rs}):=by
 have e1:=p.run;simp only[St.run] at e1;obtain⟨e1,e2⟩:=gZ _ _ _ _ ▸ e1;rw[p.m.et] at e1 e2;obtain⟨f1,f2⟩:=xL (D:=(D.aF s {c with waits:=false}).put ((D.aF s {c with waits:=false}).place t.id) (pack 4 t.ax)) (s:=s) (t:=t) (by show s<D.ag.length;rw[hw.sh.t8];exact p.m.s8) p.tx {kind:=6,t:=t.id,res:={ay:=rs}};rw[e1] at f1 f2;have et:=p.tt f1;subst et;exact⟨h.oO hw p (x:=4) (.inr rfl) (by simp only[wr];rw[p.m.et];rfl) rfl rfl rfl rfl rfl e2.symm,rfl,f2,e2.symm⟩
theorem TI.nC (h:TI D) (hw:WF N L n D) {tl:List wG} {r0:ic} (p:Stp N L n s D aH kd r t c (.turns tl r0) az ok t2 c2):TI aH∧t2=t∧az.aP=D.aP∧(∀ x l,tl=x::l->ok=some (.turns l r0))∧(tl=[]->ok=none∧c2.r=r0):=by
 have hp:=h.wd s t p.tx;rw[p.vS] at hp;obtain⟨l',r',e,hov,hpw⟩:∃ l r,some (K.turns tl r0)=some (.turns l r)∧(r.over=3∨r.over=4)∧D.word (D.place t.id)=pack r.over t.ax:=by
  rcases hp with hp|⟨hp,_⟩
  . exact hp
  . exact absurd rfl (hp tl r0)
 obtain⟨rfl,rfl⟩:=K.turns.injEq _ _ _ _ ▸ zj e;have hpl':∀ id,aH.place id=D.place id:=fun id=>by unfold St.place;rw[p.aC]
 have hst:il D t.id:=by unfold il;rw[hpw,dU (by omega)];exact hov
 have e1:=p.run
 cases tl with
 |nil=>
  simp only[St.run] at e1;obtain⟨e1,e2⟩:=gZ _ _ _ _ ▸ e1;have et:t2=t:=p.tt (by rw[<-e1];exact p.tx);subst et;have TK:=p.m.s8;have hwr:wr (D.aF s {c with waits:=false}) s (.turns [] r0)=some (1+s,0):=rfl;have hpl:∀ id,aH.word (D.place id)=D.word (D.place id):=fun id=>(p.iV hwr _).1 (by rw[hw.sh.place];omega)
  have hc2:c2.r=r0:=by
   obtain⟨d,m2⟩:=p.m2;rw[<-m2.ec,<-e1];unfold St.finish St.c St.aF St.put;simp only;rw[aM _ _ _ _ (by show s<(D.calls.set s _).length;rw[pz,hw.sh.c8];exact TK),aV rfl];rfl
  have vF:aH.ag.getD s none=none:=by
   rcases (p.no e2.symm).2.2.2 with ⟨g,_⟩|⟨_,g,_⟩
   . rw[hc2] at g;omega
   . exact g
  refine⟨h.xK p rfl rfl rfl rfl ((p.iV hwr 0).1 (by omega)) (fun b Z=>by unfold il at Z ⊢;rw[hpl',hpl];exact Z) (.inr ⟨vF,by unfold il at hst ⊢;rw[hpl',hpl];exact hst⟩) (fun q u _ _ hp=>by rw[hpl];exact hp) (fun x=>by rw[vF] at x;cases x) (fun id h1 h2=>by rw[hpl];exact h.ub id h1 h2) (fun k' hk'=>by rw[p.Fp e2.symm] at hk';cases hk') (fun x=>by rw[vF] at x;cases x),rfl,by rw[<-e1];rfl,fun x l e=>(by cases e),fun _=>⟨e2.symm,hc2⟩⟩
 |cons x l=>
  simp only[St.run] at e1;obtain⟨e1,e2⟩:=gZ _ _ _ _ ▸ e1;have htx:az.ag=D.ag∧az.aP=D.aP:=by
   rw[<-e1]
   split
   . exact⟨rfl,rfl⟩
   . exact⟨(lH _ _ _ _).1,(lH _ _ _ _).2.1⟩
  have et:t2=t:=p.tt (by rw[htx.1];exact p.tx);subst et;have hx:=(p.xI.2.2 x lJ).2;have hwd:∀ i,i<9∨73+N*3<=i->aH.word i=D.word i:=by
   intro i hi
   by_cases hf:x.old=0∨(D.aF s {c with waits:=false}).word x.at_=x.old
   . exact (p.iV (j:=x.at_) (v:=x.new) (by simp only[wr];rw[aV hf]) i).1 (by omega)
   . exact p.p8 (by simp only[wr];rw[aX hf]) i
  have hpl:∀ id,aH.word (D.place id)=D.word (D.place id):=fun id=>hwd _ (by rw[hw.sh.place];omega)
  refine⟨h.xK p rfl rfl rfl rfl (hwd 0 (by omega)) (fun b Z=>by unfold il at Z ⊢;rw[hpl',hpl];exact Z) (.inl (p.go _ e2.symm).2.2.2.1) (fun q u _ _ hp=>by rw[hpl];exact hp) (fun _=>?_) (fun id h1 h2=>by rw[hpl];exact h.ub id h1 h2) (fun k' hk'=>?_) (fun _ hk'=>?_),rfl,htx.2,fun y l' e=>?_,fun e=>(by cases e)⟩
  . rw[p.jG e2.symm,hpl,hpw]
    exact .inl ⟨l,r0,rfl,hov,rfl⟩
  . rw[p.jG e2.symm] at hk'
    obtain rfl:=zj hk';exact .inl ⟨_,_,rfl⟩
  . rw[p.jG e2.symm] at hk';cases hk'
  . obtain⟨rfl,rfl⟩:=List.cons.injEq _ _ _ _ ▸ e
    exact e2.symm
theorem TI.xM (h:TI D) (hw:WF N L n D) {w now:Nat} (p:Stp N L n s D aH kd r t c (.turn w now) az ok t2 c2):TI aH∧((D.word 0≠w∧t2=t∧az.aP=D.aP∧aH.word 0=D.word 0∧ok=some .draw)∨(D.word 0=w∧t2={t with ax:=ai (D.word 0)+1}∧az.aP=D.aP++[{kind:=3,t:=t.id,n:=ai (D.word 0)+1}]∧ai (aH.word 0)=ai (D.word 0)+1∧ok=some .dD)):=by
 have yZ:KT (pI D t) (kI D) t (.turn w now):=by
  rcases h.kk s t _ p.tx p.vS with ⟨l,r,e⟩|hx
  . cases e
  . exact hx
 obtain⟨k1,k2,k3⟩:=yZ;have hi:=h.ip s t p.tx;have hm:=hw.sh.md;have Z:=h.bg s t p.tx;have e1:=p.run;simp only[St.run] at e1;rw[p.m.et] at e1;have hwd:=h.wd s t p.tx;rw[p.vS] at hwd;have hw1:D.word (D.place t.id)=pack 1 0:=by
  rcases hwd with ⟨l,r,e,_⟩|⟨_,⟨g1,_⟩|⟨_,g2⟩⟩
  . cases e
  . exact g1
  . exact absurd k1 g2
 by_cases hf:D.word 0=w
 . have hf':(D.aF s {c with waits:=false}).word 0=w:=hf
   rw[aX (fun x=>x hf')] at e1;obtain⟨e1,e2⟩:=gZ _ _ _ _ ▸ e1;have hwr:wr (D.aF s {c with waits:=false}) s (.turn w now)=some (0,aO (now+1) t.id):=by
    simp only[wr];rw[aV hf',p.m.et]
   have h0:=(p.iV hwr 0).2 (by rw[hw.sh.nw];omega);have hpl:∀ id,aH.word (D.place id)=D.word (D.place id):=fun id=>(p.iV hwr _).1 (by rw[hw.sh.place];omega)
   have hpl':∀ id,aH.place id=D.place id:=fun id=>by unfold St.place;rw[p.aC]
   have nP:ai (aH.word 0)=ai (D.word 0)+1:=by rw[h0,hf,k2];unfold ai aO;omega
   have hla:aT (aH.word 0)=t.id:=by rw[h0];unfold aT aO;omega
   have Kw:now=ai (D.word 0):=by rw[hf,k2]
   have ec:((D.aF s {c with waits:=false}).bP 0 w (aO (now+1) t.id)).t s=t:=by
    unfold St.t;rw[(lH _ _ _ _).1];exact p.m.et
   rw[ec] at e1
   have et : t2 = { t with ax := now + 1 } := p.tt (by
     rw[<-e1]
     show ((((D.aF s {c with waits:=false}).bP 0 w (aO (now+1) t.id)).ag).set s _).getD s none=_
     rw[(lH _ _ _ _).1,aM _ _ _ _ (by show s<D.ag.length;rw[hw.sh.t8];exact p.m.s8),aV rfl])
   subst et;have aa:Rel D aH s t {t with ax:=now+1}:=⟨p.aA,p.aC,p.ox,p.oc,p.tx,rfl,rfl,fun x=>absurd k1 x,by omega,fun b Z=>by unfold il at Z ⊢;rw[hpl',hpl];exact Z,.inl (p.go _ e2.symm).2.2.2.1⟩
   have hl1:lim t<=lim {t with ax:=now+1}:=by
    unfold lim;rw[aV k1,aX (by show ¬ now+1=0;omega)];show t.aG<=now+1;omega
   refine⟨h.next aa ⟨by show now+1<=_;omega,fun _=>by show t.aG<now+1;omega⟩ (.inr (by show _<now+1;omega)) (fun q u _ _ hp=>by rw[hpl];exact hp) (fun _=>?_) (fun id h1 h2=>by rw[hpl];exact h.ub id h1 h2) ⟨by rw[hla,p.aA];exact hi.2,zr _,fun q u hu hq=>?_⟩ (fun k' _ hk'=>?_) (fun _ hk'=>?_) ?_,.inr ⟨hf,by rw[Kw],?_,nP,e2.symm⟩⟩
   . rw[p.jG e2.symm,hpl,hw1]
     exact .inr ⟨fun l r e=>(by cases e),.inl ⟨rfl,.inr rfl⟩⟩
   . rw[hla] at hq
     rcases aa.alive hu with ⟨e,g⟩|⟨rfl,rfl⟩
     . exact absurd (h.uq q s u t g p.tx hq) e
     . exact⟨by show now+1=_;omega,by show now+1≠0;omega⟩
   . rw[p.jG e2.symm] at hk'
     obtain rfl:=zj hk';exact .inr (by show now+1≠0;omega)
   . rw[p.jG e2.symm] at hk';cases hk'
   . have Ll:=h.bo s t p.tx
     exact⟨Ll.1,fun b x=>aa.bnd (Ll.2 b x) hl1 rfl⟩
   . rw[<-e1,Kw]
     show ((D.aF s {c with waits:=false}).bP _ _ _).aP++_=_;rw[(lH _ _ _ _).2.1];show D.aP++_=_;rw[<-Kw]
 . have hf':¬ (D.aF s {c with waits:=false}).word 0=w:=hf
   rw[aV hf'] at e1;obtain⟨e1,e2⟩:=gZ _ _ _ _ ▸ e1;have hn:=p.p8 (by simp only[wr];rw[aX hf']);have et:t2=t:=p.tt (by rw[<-e1,(lH _ _ _ _).1];exact p.tx);subst et;have hpl':∀ id,aH.place id=D.place id:=fun id=>by unfold St.place;rw[p.aC]
   refine⟨h.xK p rfl rfl rfl rfl (hn 0) (fun b Z=>by unfold il at Z ⊢;rw[hpl',hn];exact Z) (.inl (p.go _ e2.symm).2.2.2.1) (fun q u _ _ hp=>by rw[hn];exact hp) (fun _=>?_) (fun id h1 h2=>by rw[hn];exact h.ub id h1 h2) (fun k' hk'=>?_) (fun _ hk'=>?_),.inl ⟨hf,rfl,?_,hn 0,e2.symm⟩⟩
   . rw[p.jG e2.symm,hn,hw1]
     exact .inr ⟨fun l r e=>(by cases e),.inl ⟨rfl,.inl k1⟩⟩
   . rw[p.jG e2.symm] at hk'
     obtain rfl:=zj hk';exact .inr k1
   . rw[p.jG e2.symm] at hk';cases hk'
   . rw[<-e1,(lH _ _ _ _).2.1];rfl
end
structure MZ (N L n s:Nat) (D aH:St) (o:En.Op) (t:bB) (k:K) (dL:St) (t2:bB) (c2:dF):Prop where
 tx:D.ag.getD s none=some t
 ca:D.calls.getD s none=none
 op:jK o=true
 m:Mid N L n s 0 (bR D s o t) (bR D s o t) (gX o t) (fJ o (D.seq+1))
 run:(bR D s o t).first s=(dL,k)
 m2:Mid N L n s 0 (bR D s o t) dL t2 c2
 xI:uM N L t2 c2 k
 e1:aH=dL.aF s {c2 with k:=some k}
 oc:∀ q,q≠s->aH.calls.getD q none=D.calls.getD q none
 ox:∀ q,q≠s->aH.ag.getD q none=D.ag.getD q none
 cc:aH.calls.getD s none=some {c2 with k:=some k}
 tt:aH.ag.getD s none=some t2
section
variable {N L n s q cq d kd:Nat} {D τ υ aH az dL:St} {t t0 t2 u u2:bB} {c c2:dF} {r:ic} {k:K} {ok:Option K} {o:En.Op} {P Q:Nat->Prop}
theorem WF.Da (h:WF N L n D) (hs:s<8) (hi:gV D s o=some aH):∃ t k dL t2 c2,MZ N L n s D aH o t k dL t2 c2:=by
 unfold gV at hi
 split at hi
 . rename_i t ht
   split at hi
   . rename_i hcond
     obtain⟨ho,hc,hop,-,-,-,-⟩:=hcond;have hc0:D.calls.getD s none=none:=by simpa using hc
     have m:=h.MO hs ht o ho (hop.imp (fun x=>x) (fun x=>x.1));have hout:=rH m rfl rfl;have fo:=xC D s o t (by rw[h.sh.c8];exact hs) (by rw[h.sh.t8];exact hs)
     cases e:(bR D s o t).first s with
     |mk dL k=>
     rw[e] at hout hi;obtain⟨t2,c2,m2,h1,h2,h3⟩:=hout;simp only at m2 h3 hi;rw[m2.ca] at hi;simp only at hi
     split at hi
     . obtain rfl:=zj hi
       have rG:s<dL.calls.length:=by rw[m2.sh.c8];exact hs
       refine⟨t,k,dL,t2,c2,ht,hc0,ho,m,e,m2,h3,rfl,fun q hq=>?_,fun q hq=>(m2.ox q hq).trans (fo q hq).1,?_,m2.tx⟩
       . show (dL.calls.set s _).getD q none=_
         rw[aM _ _ _ _ rG,aX hq];exact (m2.oc q hq).trans (fo q hq).2
       . show (dL.calls.set s _).getD s none=_
         rw[aM _ _ _ _ rG,aV rfl]
     . cases hi
   . cases hi
 . cases hi
theorem Ii (m:Mid N L n s d D τ t c) (h0:t.ax=0):TO N L n s d D P Q t τ.aP (τ.first s):=by
 have et:=m.et;have ec:=m.ec;have r0:iI P t t:=iI.refl t;have h1:∀ th,(∀ i l,th≠.judge i l)->HT t ⟨c.op.E,t.aG,th⟩:=by
  intro th hj;unfold HT
  split
  . rename_i e;exact absurd e (hj _ _)
  . exact⟨rfl,h0⟩
 unfold St.first;simp only;rw[et,ec]
 split
 . split
   . exact⟨t,c,m,r0,.inl ⟨rfl,rfl⟩,by split<;>exact h0⟩
   . exact⟨t,c,m,r0,.inl ⟨rfl,rfl⟩,h1 .get (by intro i l e;cases e)⟩
 . exact yX _ _ _ c m r0 (.inl ⟨rfl,rfl⟩) h0
 . exact⟨t,c,m,r0,.inl ⟨rfl,rfl⟩,h0⟩
 . exact⟨t,c,m,r0,.inl ⟨rfl,rfl⟩,trivial⟩
 . split
   . split
     . exact⟨t,c,m,r0,.inl ⟨rfl,rfl⟩,h0⟩
     split
     . exact⟨t,c,m,r0,.inl ⟨rfl,rfl⟩,h0⟩
     split
     . exact yY m r0 (.inl ⟨rfl,rfl⟩) h0 true 0 0
     . exact⟨t,c,m,r0,.inl ⟨rfl,rfl⟩,h0⟩
   . exact⟨t,c,m,r0,.inl ⟨rfl,rfl⟩,h1 .change (by intro i l e;cases e)⟩
theorem Ij (s:Nat) (τ:St):Ws τ (τ.first s).1:=by
 unfold St.first;simp only
 split
 . split<;>exact Ws.refl τ
 . exact yO s τ _
 . exact Ws.refl τ
 . exact Ws.refl τ
 . split
   . split
     . exact Ws.refl τ
     split
     . exact Ws.refl τ
     split
     . exact yQ s τ true 0 0
     . exact Ws.refl τ
   . exact Ws.refl τ
theorem Db (s:Nat):∀ (k:Nat) (τ:St) (E:Nat),(fA s k τ E).1.aP=τ.aP:=by
 intro k
 induction k with
 |zero=>intro τ E;rfl
 |succ k ih=>
  intro τ E;unfold fA
  split
  . rfl
  . split
    . rw[ih];split<;>rfl
    . rfl
theorem Fq (s:Nat) (τ:St) (x:Bool) (F head:Nat):(τ.slot s x F head).1.aP=τ.aP:=by
 unfold St.slot
 by_cases h0:F=0
 . rw[aV h0]
   have e1:=(rF τ).2.2.2.2.2.2.1
   cases e:τ.take with
   |mk bE o=>
    rw[e] at e1
    cases o with
    |none=>exact e1
    |some l=>exact e1
 . rw[aX h0]
theorem Dc (s:Nat) (τ:St):(τ.first s).1.aP=τ.aP:=by
 unfold St.first;simp only
 split
 . split<;>rfl
 . exact Db s _ τ _
 . rfl
 . rfl
 . split
   . split
     . rfl
     split
     . rfl
     split
     . exact Fq s τ true 0 0
     . rfl
   . rfl
theorem vG (D:St) (s:Nat) (o:En.Op) (t:bB):(bR D s o t).words=D.words∧(bR D s o t).aC=D.aC∧(bR D s o t).aA=D.aA∧(bR D s o t).aP=D.aP:=by
 unfold bR;split<;>exact⟨rfl,rfl,rfl,rfl⟩
theorem MZ.ws (p:MZ N L n s D aH o t k dL t2 c2):Ws D aH∧aH.aA=D.aA:=by
 obtain⟨a,b,c,d⟩:=vG D s o t;have h:=Ij s (bR D s o t);rw[p.run] at h;have hm:=p.m2.md;rw[p.e1];exact⟨⟨h.1.trans a,h.2.trans b⟩,hm.trans c⟩
theorem Bv (o:En.Op) (t:bB):(gX o t).id=t.id∧(gX o t).aG=t.aG∧(gX o t).ax=t.ax∧(gX o t).aJ=t.aJ∧(gX o t).ak=t.ak∧(gX o t).over=t.over:=by
 unfold gX;split<;>exact⟨rfl,rfl,rfl,rfl,rfl,rfl⟩
theorem TI.nN (h:TI D) (hw:WF N L n D) (p:MZ N L n s D aH o t k dL t2 c2):TI aH∧iI (pI D t) (gX o t) t2∧aH.aP=D.aP:=by
 have hk0:D.ig s=none:=by unfold St.ig;rw[p.ca];rfl
 have h0:=h.Px s t p.tx hk0;obtain⟨f1,f2,f3,f4,f5,f6⟩:=Bv o t;have hto:=Ii (P:=fun b=>pI D t b∧False) (Q:=kI D) p.m (by rw[f3];exact h0);rw[p.run] at hto;obtain⟨t',c',m',hs',hl,hn⟩:=hto;have e:t2=t':=zj (p.m2.tx.symm.trans m'.tx);subst e;have hs:iI (pI D t) (gX o t) t2:=⟨hs'.id,hs'.bg,hs'.en,hs'.lv,hs'.ov,hs'.bo.imp (fun x=>x) (fun ⟨b,Z,_⟩=>Z.2.elim)⟩
 have hb2:t2.aJ=t.aJ:=by
  rcases hs'.bo with e|⟨b,Z,_⟩
  . rw[e,f4]
  . exact Z.2.elim
 obtain⟨ws,hm⟩:=p.ws;have zX:aH.aP=D.aP:=by
  have h4:=(vG D s o t).2.2.2;have h5:=Dc s (bR D s o t);rw[p.run] at h5;have this:dL.aP=D.aP:=h5.trans h4;rw[p.e1];exact this
 have hid:t2.id=t.id:=hs.id.trans f1;have hbg:t2.aG=t.aG:=hs.bg.trans f2;have hen:t2.ax=t.ax:=hs.en.trans f3;have hw':∀ i,aH.word i=D.word i:=fun i=>ws.word i
 have aa:Rel D aH s t t2:=⟨hm,ws.2,p.ox,p.oc,p.tx,hid,hbg,fun _=>hen,by rw[hw'];exact zr _,fun b Z=>by unfold il at Z ⊢;rw[ws.place,hw'];exact Z,.inl p.tt⟩
 have hlim:lim t2=lim t:=by unfold lim;rw[hen,hbg]
 have Z:=h.bg s t p.tx;have hk1:aH.ig s=some k:=by unfold St.ig;rw[p.cc];rfl
 have hkt:KT (pI D t) (kI D) t k:=hn.mono (fun b x=>x.1) (fun w x=>x) f2.symm f3.symm f1.symm;refine⟨h.next aa ⟨by rw[hen,hw'];exact Z.2.2.1,by rw[hen,hbg];exact Z.2.2.2⟩ (.inl hen) (fun q u _ _ hp=>by rw[hw'];exact hp) (fun _=>?_) (fun id h1 h2=>by rw[hw'];exact h.ub id h1 h2) (by rw[hw'];exact aa.ck h.ck) (fun k' _ hk'=>?_) (fun _ hk'=>by rw[hk1] at hk';cases hk') ?_,hs,zX⟩
 . have hp:=h.wd s t p.tx
   rw[hk0] at hp;rw[hw',hk1]
   rcases hp with ⟨l,r,e,_⟩|⟨_,hp⟩
   . cases e
   . unfold PW
     rw[hen];refine .inr ⟨fun l r e=>?_,hp.imp (fun x=>⟨x.1,.inl h0⟩) (fun x=>x)⟩;obtain rfl:=zj e;exact hkt
 . rw[hk1] at hk'
   obtain rfl:=zj hk';exact .inr (hkt.mono (fun b Z=>aa.bnd Z (Nat.le_of_eq hlim.symm) hid) (fun w hw=>aa.ck hw) hbg hen hid)
 . have Z:=h.bo s t p.tx
   rw[hb2];exact⟨Z.1,fun b x=>aa.bnd (Z.2 b x) (Nat.le_of_eq hlim.symm) hid⟩
theorem TI.quiet (h:TI D) (hm:τ.aA=D.aA) (hsl:τ.aC=D.aC) (hx:τ.ag=D.ag) (hc:τ.calls=D.calls) (h0:τ.word 0=D.word 0) (hp:∀ id,τ.word (D.place id)=D.word (D.place id)):TI τ:=by
 have hpl:∀ id,τ.place id=D.place id:=fun id=>by unfold St.place;rw[hsl]
 have hko:∀ q,τ.ig q=D.ig q:=fun q=>by unfold St.ig;rw[hc]
 have hst:∀ b,il D b->il τ b:=fun b Z=>by unfold il at Z ⊢;rw[hpl,hp];exact Z
 have hbn:∀ u b,pI D u b->pI τ u b:=fun u b Z=>⟨Z.1,by rw[hm];exact Z.2.1,Z.2.2.1,Z.2.2.2.imp (hst b) (fun ⟨s',t',g⟩=>⟨s',t',by rw[hx];exact g.1,g.2⟩)⟩
 have hck:∀ w,kI D w->kI τ w:=fun w ⟨a,b,c⟩=>⟨by rw[hm];exact a,by rw[h0];exact b,fun s t ht=>by rw[hx] at ht;exact c s t ht⟩
 refine⟨fun s s' t t' a b=>?_,fun s t a=>?_,fun s t a=>?_,fun s s' t t' a b=>?_,fun s t a=>?_,fun id h1 h2 h3=>?_,fun id h1 h2=>?_,?_,fun s t k a b=>?_,fun s t a b=>?_,fun s t a=>?_⟩
 . rw[hx] at a b;exact h.uq s s' t t' a b
 . rw[hx] at a;rw[hm];exact h.ip s t a
 . rw[hx] at a;rw[h0];exact h.bg s t a
 . rw[hx] at a b;exact h.ne s s' t t' a b
 . rw[hx] at a;rw[hpl,hp,hko];exact h.wd s t a
 . rw[hm] at h2;exact hst _ (h.dd id h1 h2 (fun s t ht=>h3 s t (by rw[hx];exact ht)))
 . rw[hm] at h1;rw[hpl,hp];exact h.ub id h1 h2
 . rw[h0];exact hck _ h.ck
 . rw[hx] at a;rw[hko] at b
   exact (h.kk s t k a b).imp (fun x=>x) (fun x=>x.mono (hbn t) hck rfl rfl rfl)
 . rw[hx] at a;rw[hko] at b;exact h.Px s t a b
 . rw[hx] at a
   exact⟨(h.bo s t a).1,fun b Z=>hbn t b ((h.bo s t a).2 b Z)⟩
theorem TI.tick (h:TI D):TI D.tick:=h.quiet rfl rfl rfl rfl rfl (fun _=>rfl)
theorem TI.bT (h:TI D) (hw:WF N L n D) {w:Nat} (hlo:aT w≠0) (hlm:aT w<=2000) (hck:∀ s t,D.ag.getD s none=some t->t.id=aT w->t.ax=ai w∧t.ax≠0):TI (D.bT w):=by
 by_cases hf:D.word (D.place (aT w))=pack 1 0
 . have e:D.bT w=D.put (D.place (aT w)) (pack 2 (ai w)):=by unfold St.bT St.bP;rw[aV hf]
   rw[e];have hlen:D.place (aT w)<D.words.length:=by rw[hw.sh.place,hw.sh.nw];omega
   have hj:(D.put (D.place (aT w)) (pack 2 (ai w))).word (D.place (aT w))=pack 2 (ai w):=by rw[eZ,aV ⟨rfl,hlen⟩]
   have hne:∀ id,id≠aT w->(D.put (D.place (aT w)) (pack 2 (ai w))).word (D.place id)=D.word (D.place id):=fun id hi=>by rw[eZ,aX (fun e=>hi (rR (N:=N) e.1))]
   have h0:(D.put (D.place (aT w)) (pack 2 (ai w))).word 0=D.word 0:=by rw[eZ,aX (fun e=>by have:=e.1;rw[hw.sh.place] at this;omega)]
   generalize Py:D.put (D.place (aT w)) (pack 2 (ai w))=τ at hj hne h0;have hm:τ.aA=D.aA:=by rw[<-Py];rfl
   have hx:τ.ag=D.ag:=by rw[<-Py];rfl
   have hpl:∀ id,τ.place id=D.place id:=fun id=>by rw[<-Py];rfl
   have hko:∀ q,τ.ig q=D.ig q:=fun q=>by rw[<-Py];rfl
   have hst:∀ b,il D b->il τ b:=fun b Z=>by
    unfold il at Z ⊢;rw[hpl]
    by_cases e:b=aT w
    . subst e;rw[hf,dU (by omega)] at Z;omega
    . rw[hne b e];exact Z
   have hbn:∀ u b,pI D u b->pI τ u b:=fun u b Z=>⟨Z.1,by rw[hm];exact Z.2.1,Z.2.2.1,Z.2.2.2.imp (hst b) (fun ⟨s',t',g⟩=>⟨s',t',by rw[hx];exact g.1,g.2⟩)⟩
   have KA:∀ w,kI D w->kI τ w:=fun w ⟨a,b,c⟩=>⟨by rw[hm];exact a,by rw[h0];exact b,fun s t ht=>by rw[hx] at ht;exact c s t ht⟩
   refine⟨fun s s' t t' a b=>?_,fun s t a=>?_,fun s t a=>?_,fun s s' t t' a b=>?_,fun s t a=>?_,fun id h1 h2 h3=>?_,fun id h1 h2=>?_,?_,fun s t k a b=>?_,fun s t a b=>?_,fun s t a=>?_⟩
   . rw[hx] at a b;exact h.uq s s' t t' a b
   . rw[hx] at a;rw[hm];exact h.ip s t a
   . rw[hx] at a;rw[h0];exact h.bg s t a
   . rw[hx] at a b;exact h.ne s s' t t' a b
   . rw[hx] at a
     rw[hpl,hko];have hp:=h.wd s t a
     by_cases e:t.id=aT w
     . rw[e,hj]
       rw[e,hf] at hp;obtain⟨g1,g2⟩:=hck s t a e
       rcases hp with ⟨l,r,_,h4,h5⟩|⟨g3,_⟩
       . have:bA (pack 1 0)=r.over:=by rw[h5,dU (by omega)]
         rw[dU (by omega)] at this;omega
       . exact .inr ⟨g3,.inr ⟨by rw[g1],g2⟩⟩
     . rw[hne _ e];exact hp
   . rw[hm] at h2;exact hst _ (h.dd id h1 h2 (fun s t ht=>h3 s t (by rw[hx];exact ht)))
   . rw[hm] at h1
     rw[hpl];have e:id≠aT w:=by
      rintro rfl;have:=h.ub _ h1 h2;rw[hf] at this;cases this
     rw[hne id e];exact h.ub id h1 h2
   . rw[h0];exact KA _ h.ck
   . rw[hx] at a;rw[hko] at b
     exact (h.kk s t k a b).imp (fun x=>x) (fun x=>x.mono (hbn t) KA rfl rfl rfl)
   . rw[hx] at a;rw[hko] at b;exact h.Px s t a b
   . rw[hx] at a
     exact⟨(h.bo s t a).1,fun b Z=>hbn t b ((h.bo s t a).2 b Z)⟩
 . have e:D.bT w=D.tick:=by unfold St.bT St.bP;rw[aX hf]
   rw[e];exact h.tick
theorem TI.bC (h:TI D) (hm:D.aA<2000) (hs:s<8) (hw:Sh N L n D) (ht:D.ag.getD s none=none) (hc:D.calls.getD s none=none) (ak:Nat) (h4:ai (D.word 0)<281474976710000):TI (bC D s ak D):=by
 have hx:∀ q,(Em.bC D s ak D).ag.getD q none=if q=s then some (eT (D.aA+1) ak (ai (D.word 0)+1)) else D.ag.getD q none:=by
  intro q;show (((({D with aA:=D.aA+1}:St).bP 0 (D.word 0) (aO (ai (D.word 0)+1) 0)).ag).set s _).getD q none=_;rw[(lH _ _ _ _).1];exact aM _ _ _ _ (by show s<D.ag.length;rw[hw.t8];exact hs)
 have hcl:(Em.bC D s ak D).calls=D.calls:=by
  show (({D with aA:=D.aA+1}:St).bP 0 (D.word 0) (aO (ai (D.word 0)+1) 0)).calls=_;rw[(lH _ _ _ _).2.2]
 have hmd:(Em.bC D s ak D).aA=D.aA+1:=by
  show (({D with aA:=D.aA+1}:St).bP 0 (D.word 0) (aO (ai (D.word 0)+1) 0)).aA=_;unfold St.bP;split<;>rfl
 have hsl:(Em.bC D s ak D).aC=D.aC:=by
  show (({D with aA:=D.aA+1}:St).bP 0 (D.word 0) (aO (ai (D.word 0)+1) 0)).aC=_;unfold St.bP;split<;>rfl
 have hwd:(Em.bC D s ak D).words=((D.words.set 0 (aO (ai (D.word 0)+1) 0)).set (D.place (D.aA+1)) (pack 1 0)).set (1+s) (ai (D.word 0)+1):=by
  show (((({D with aA:=D.aA+1}:St).bP 0 (D.word 0) (aO (ai (D.word 0)+1) 0)).words.set (D.place (D.aA+1)) (pack 1 0)).set (1+s) (ai (D.word 0)+1))=_;rw[eG,aV (show ({D with aA:=D.aA+1}:St).word 0=D.word 0 from rfl)]
 have hlen:=hw.nw;have hpl:∀ id,D.place id=73+N*3+id:=fun id=>hw.place id
 generalize Py:Em.bC D s ak D=τ at hx hcl hmd hsl hwd;have hpl':∀ id,τ.place id=D.place id:=fun id=>by unfold St.place;rw[hsl]
 have hko:∀ q,τ.ig q=D.ig q:=fun q=>by unfold St.ig;rw[hcl]
 have w0:τ.word 0=aO (ai (D.word 0)+1) 0:=by
  unfold St.word;rw[hwd,fK,aX (by omega),fK,aX (by rw[hpl];omega),fK,aV ⟨rfl,by omega⟩];rfl
 have nP:ai (τ.word 0)=ai (D.word 0)+1:=by rw[w0];unfold ai aO;omega
 have hla:aT (τ.word 0)=0:=by rw[w0];unfold aT aO;omega
 have wn:τ.word (D.place (D.aA+1))=pack 1 0:=by
  show τ.words.getD _ 0=_;rw[hwd,fK,aX (by rw[hpl];omega),fK,aV ⟨rfl,by rw[pz,hpl];omega⟩]
 have wo:∀ id,id≠D.aA+1->τ.word (D.place id)=D.word (D.place id):=by
  intro id hi;show τ.words.getD _ 0=_;rw[hwd,fK,aX (by rw[hpl];omega),fK,aX (by rw[hpl,hpl];omega),fK,aX (by rw[hpl];omega)];rfl
 have hst:∀ b,b<=D.aA->il D b->il τ b:=fun b Z h=>by unfold il at h ⊢;rw[hpl',wo b (by omega)];exact h
 have hal:∀ {q u},τ.ag.getD q none=some u->(q≠s∧D.ag.getD q none=some u)∨(q=s∧u=eT (D.aA+1) ak (ai (D.word 0)+1)):=by
  intro q u hu;rw[hx] at hu
  by_cases e:q=s
  . rw[aV e] at hu;exact .inr ⟨e,(zj hu).symm⟩
  . rw[aX e] at hu;exact .inl ⟨e,hu⟩
 have hne:∀ {q u},D.ag.getD q none=some u->q≠s:=by rintro q u hu rfl;rw[ht] at hu;cases hu
 have hbn:∀ u b,pI D u b->pI τ u b:=fun u b Z=>⟨Z.1,by have:=Z.2.1;omega,Z.2.2.1,Z.2.2.2.imp (hst b Z.2.1) (fun ⟨s',t',g⟩=>⟨s',t',by rw[hx,aX (hne g.1)];exact g.1,g.2⟩)⟩
 have KA : ∀ w, kI D w -> kI τ w := fun w ⟨a, b, c⟩ => ⟨by omega, by omega, fun q u hu hi => by
   rcases hal hu with ⟨e,g⟩|⟨rfl,rfl⟩
   . exact c q u g hi
   . have:D.aA+1=aT w:=hi
     omega⟩
 refine⟨fun q q' u u' hu hu' hi=>?_,fun q u hu=>?_,fun q u hu=>?_,fun q q' u u' hu hu' hq he=>?_,fun q u hu=>?_,fun id h1 h2 h3=>?_,fun id h1 h2=>?_,⟨by omega,zr _,fun q u hu hi=>?_⟩,fun q u k hu V=>?_,fun q u hu V=>?_,fun q u hu=>?_⟩
 . rcases hal hu with ⟨e,g⟩|⟨rfl,rfl⟩<;>rcases hal hu' with ⟨e',g'⟩|⟨rfl,rfl⟩
   . exact h.uq q q' u u' g g' hi
   . have:=(h.ip q u g).2
     have:u.id=D.aA+1:=hi;omega
   . have:=(h.ip q' u' g').2
     have:D.aA+1=u'.id:=hi;omega
   . rfl
 . rcases hal hu with ⟨e,g⟩|⟨rfl,rfl⟩
   . have:=h.ip q u g;omega
   . exact⟨by show 1<=D.aA+1;omega,by show D.aA+1<=_;omega⟩
 . rcases hal hu with ⟨e,g⟩|⟨rfl,rfl⟩
   . have h1:=h.bg q u g
     exact⟨h1.1,by omega,by omega,h1.2.2.2⟩
   . exact⟨by show 1<=ai (D.word 0)+1;omega,by show ai (D.word 0)+1<=_;omega,zz _,fun e=>absurd rfl e⟩
 . rcases hal hu with ⟨e,g⟩|⟨rfl,rfl⟩<;>rcases hal hu' with ⟨e',g'⟩|⟨rfl,rfl⟩
   . exact h.ne q q' u u' g g' hq he
   . exact he
   . exact absurd rfl he
   . exact absurd rfl hq
 . rw[hpl',hko]
   rcases hal hu with ⟨e,g⟩|⟨rfl,rfl⟩
   . rw[wo u.id (by have:=(h.ip q u g).2;omega)];exact h.wd q u g
   . have e:D.ig q=none:=by unfold St.ig;rw[hc];rfl
     rw[e];exact .inr ⟨fun l r e=>(by cases e),.inl ⟨wn,.inl rfl⟩⟩
 . by_cases e:id=D.aA+1
   . exact absurd e.symm (h3 s (eT (D.aA+1) ak (ai (D.word 0)+1)) (by rw[hx,aV rfl]))
   . exact hst id (by omega) (h.dd id h1 (by omega) (fun q u hu=>h3 q u (by rw[hx,aX (hne hu)];exact hu)))
 . rw[hpl',wo id (by omega)]
   exact h.ub id (by omega) h2
 . rw[hla] at hi
   rcases hal hu with ⟨e,g⟩|⟨rfl,rfl⟩
   . have:=(h.ip q u g).1;omega
   . have:D.aA+1=0:=hi
     omega
 . rw[hko] at V
   rcases hal hu with ⟨e,g⟩|⟨rfl,rfl⟩
   . exact (h.kk q u k g V).imp (fun x=>x) (fun x=>x.mono (hbn u) KA rfl rfl rfl)
   . have e:D.ig q=none:=by unfold St.ig;rw[hc];rfl
     rw[e] at V;cases V
 . rw[hko] at V
   rcases hal hu with ⟨e,g⟩|⟨rfl,rfl⟩
   . exact h.Px q u g V
   . rfl
 . rcases hal hu with ⟨e,g⟩|⟨rfl,rfl⟩
   . exact⟨(h.bo q u g).1,fun b Z=>hbn u b ((h.bo q u g).2 b Z)⟩
   . exact⟨List.nodup_nil,fun b Z=>by cases Z⟩
end
section
variable {N L n s q cq d kd:Nat} {D τ υ aH az dL:St} {t t0 t2 u u2:bB} {c c2:dF} {r:ic} {k:K} {ok:Option K} {o:En.Op} {P Q:Nat->Prop}
def Pz (D az:St) (t t2:bB) (w0:Nat) (ok:Option K):Prop:=
 (az.aP=D.aP∧w0=ai (D.word 0)∧t2.ax=t.ax)∨(∃ e,az.aP=D.aP++[e]∧(e.kind=4∨e.kind=5∨e.kind=6)∧w0=ai (D.word 0)∧t2.ax=t.ax)∨
 (t.ax=0∧t2.ax=w0∧w0=ai (D.word 0)+1∧az.aP=D.aP++[{kind:=3,t:=t.id,n:=w0}])
theorem Stp.xN (p:Stp N L n s D aH kd r t c k az ok t2 c2) (hw:WF N L n D) (h:∀ w now,k≠.turn w now) (hl:∀ w now,k=.dJ w now->True):aH.word 0=D.word 0:=by
 cases e:wr (D.aF s {c with waits:=false}) s k with
 |none=>exact p.p8 e 0
 |some jv=>
  obtain⟨j,v⟩:=jv;refine (p.iV e 0).1 ?_;have hpl:∀ id,(D.aF s {c with waits:=false}).place id=73+N*3+id:=fun id=>hw.sh.place id
  by_cases hA:Ky k=true
  . have:=MX p.xI hA p.m.et p.m.ec e (Bu p.m.op)
    omega
  . cases k with
    |dJ w now=>
     simp only[wr] at e
     split at e
     . obtain⟨rfl,-⟩:=gZ _ _ _ _ ▸ zj e
       rw[hpl];omega
     . cases e
    |turn w now=>exact absurd rfl (h w now)
    |dD=>
     simp only[wr] at e
     split at e
     . obtain⟨rfl,-⟩:=gZ _ _ _ _ ▸ zj e
       rw[hpl];omega
     . cases e
    |bO=>
     obtain⟨rfl,-⟩:=gZ _ _ _ _ ▸ zj e;rw[hpl];omega
    |abort x y=>
     obtain⟨rfl,-⟩:=gZ _ _ _ _ ▸ zj e;rw[hpl];omega
    |turns l r=>
     cases l with
     |nil=>
      obtain⟨rfl,-⟩:=gZ _ _ _ _ ▸ zj e;omega
     |cons x l=>
      have:=(p.xI.2.2 x lJ).2;simp only[wr] at e
      split at e
      . obtain⟨rfl,-⟩:=gZ _ _ _ _ ▸ zj e
        omega
      . cases e
    |_=>exact absurd rfl hA
theorem TI.Eg (h:TI D) (hw:WF N L n D) (p:Stp N L n s D aH kd r t c k az ok t2 c2):TI aH∧Pz D az t t2 (ai (aH.word 0)) ok∧t2.id=t.id∧t2.aG=t.aG:=by
 by_cases hA:Ky k=true
 . obtain⟨h1,h2,h3,_⟩:=h.Ig hw p hA
   have h0:=p.xN hw (by rintro w now rfl;cases hA) (fun _ _ _=>trivial);refine⟨h1,?_,h2.id,h2.bg⟩;rw[h0]
   rcases h3 with ⟨_,h3⟩|⟨b,_,_,_,h3⟩
   . exact .inl ⟨h3,rfl,h2.en⟩
   . exact .inr (.inl ⟨_,h3,.inl rfl,rfl,h2.en⟩)
 . cases k with
   |dJ w now=>
    obtain⟨h1,rfl,h3⟩:=h.vD hw p;have h0:=p.xN hw (by intro a b e;cases e) (fun _ _ _=>trivial);exact⟨h1,.inl ⟨h3,by rw[h0],rfl⟩,rfl,rfl⟩
   |turn w now=>
    obtain⟨h1,⟨_,rfl,h3,h4,_⟩|⟨_,rfl,h3,h4,_⟩⟩:=h.xM hw p
    . exact⟨h1,.inl ⟨h3,by rw[h4],rfl⟩,rfl,rfl⟩
    . have yZ:KT (pI D t) (kI D) t (.turn w now):=by
       rcases h.kk s t _ p.tx p.vS with ⟨l,r,e⟩|hx
       . cases e
       . exact hx
      exact⟨h1,.inr (.inr ⟨yZ.1,h4.symm,h4,by rw[h4];exact h3⟩),rfl,rfl⟩
   |dD=>
    obtain⟨h1,rfl,h3⟩:=h.vE hw p;have h0:=p.xN hw (by intro a b e;cases e) (fun _ _ _=>trivial);exact⟨h1,.inl ⟨h3,by rw[h0],rfl⟩,rfl,rfl⟩
   |bO=>
    obtain⟨h1,rfl,h3,_⟩:=h.l9 hw p;have h0:=p.xN hw (by intro a b e;cases e) (fun _ _ _=>trivial);refine⟨h1,?_,rfl,rfl⟩;rw[h0]
    split at h3
    . exact .inl ⟨h3,rfl,rfl⟩
    . exact .inr (.inl ⟨_,h3,.inr (.inl rfl),rfl,rfl⟩)
   |abort e rs=>
    obtain⟨h1,rfl,h3,_⟩:=h.nA hw p;have h0:=p.xN hw (by intro a b e;cases e) (fun _ _ _=>trivial);refine⟨h1,?_,rfl,rfl⟩;rw[h0]
    split at h3
    . exact .inl ⟨h3,rfl,rfl⟩
    . exact .inr (.inl ⟨_,h3,.inr (.inr rfl),rfl,rfl⟩)
   |turns l r=>
    obtain⟨h1,rfl,h3,_⟩:=h.nC hw p;have h0:=p.xN hw (by intro a b e;cases e) (fun _ _ _=>trivial);exact⟨h1,.inl ⟨h3,by rw[h0],rfl⟩,rfl,rfl⟩
   |_=>exact absurd rfl hA
/- The tale's times. -/
def ma (a:Nat×List Nat) (e:Ev):Option (Nat×List Nat):=
 if e.kind=1 then (if e.n=a.1+1∧1<=e.t∧e.t<=2000 then some (a.1+1,e.t::a.2) else none)
 else if e.kind=3 then (if e.n=a.1+1∧1<=e.t∧e.t<=2000∧e.t∈a.2 then some (a.1+1,a.2) else none)
 else some a
def sQ:List Ev->Nat×List Nat->Option (Nat×List Nat)
 |[],a=>some a
 |e::l,a=>match ma a e with|some b=>sQ l b|none=>none
theorem vH (l:List Ev) (e:Ev):∀ (a:Nat×List Nat),sQ (l++[e]) a=match sQ l a with|some b=>ma b e|none=>none:=by
 induction l with
 |nil=>
  intro a;show (match ma a e with|some b=>sQ [] b|none=>none)=ma a e
  cases ma a e<;>rfl
 |cons x l ih=>
  intro a;have e1:sQ (x::l++[e]) a=match ma a x with|some b=>sQ (l++[e]) b|none=>none:=rfl
  have e2:sQ (x::l) a=match ma a x with|some b=>sQ l b|none=>none:=rfl
  rw[e1,e2]
  cases h:ma a x with
  |none=>rfl
  |some b=>exact ih b
def TT (D:St):Prop:=∃ bs,sQ D.aP (0,[])=some (ai (D.word 0),bs)∧∀ s t,D.ag.getD s none=some t->t.id∈bs
theorem xO {l:List Ev} {e:Ev} {a b:Nat×List Nat} (h:sQ l a=some b) (h1:e.kind≠1) (h3:e.kind≠3):sQ (l++[e]) a=some b:=by
 rw[vH,h];show ma b e=some b;unfold ma;rw[aX h1,aX h3]
theorem TT.step (h:TT D) (hi:TI D) (hw:WF N L n D) (p:Stp N L n s D aH kd r t c k az ok t2 c2):TT aH:=by
 obtain⟨bs,h1,h2⟩:=h;obtain⟨g1,g2,g3,g4⟩:=hi.Eg hw p;have hid:=hi.ip s t p.tx;have hmd:=hw.sh.md;have hal:∀ q u,aH.ag.getD q none=some u->u.id∈bs:=by
  intro q u hu
  by_cases e:q=s
  . subst e
    cases ok with
    |some k'=>
     rw[(p.go k' rfl).2.2.2.1] at hu;obtain rfl:=zj hu;rw[g3];exact h2 q t p.tx
    |none=>
     rcases (p.no rfl).2.2.2 with ⟨_,g,_⟩|⟨_,g,_⟩
     . rw[g] at hu
       obtain rfl:=zj hu;rw[g3];exact h2 q t p.tx
     . rw[g] at hu;cases hu
  . rw[p.ox q e] at hu;exact h2 q u hu
 have hmid:sQ az.aP (0,[])=some (ai (aH.word 0),bs):=by
  rcases g2 with ⟨e1,e2,_⟩|⟨e,e1,e2,e3,_⟩|⟨_,_,e2,e3⟩
  . rw[e1,e2];exact h1
  . rw[e1,e3];exact xO h1 (by omega) (by omega)
  . rw[e3,vH,h1]
    show ma _ _=_;unfold ma;rw[aX (by show ¬ (3=1);omega),aV rfl,aV ⟨e2,hid.1,by show t.id<=2000;omega,h2 s t p.tx⟩,e2]
 refine⟨bs,?_,hal⟩
 cases ok with
 |some k'=>rw[(p.go k' rfl).2.2.2.2];exact hmid
 |none=>
  rcases (p.no rfl).2.2.2 with ⟨_,_,g⟩|⟨_,_,g⟩
  . rw[g];exact xO hmid (by show ¬ (2=1);omega) (by show ¬ (2=3);omega)
  . rw[g];exact hmid
theorem TT.nN (h:TT D) (hi:TI D) (hw:WF N L n D) (hs:s<8) (his:gV D s o=some aH):TT aH:=by
 obtain⟨t,k,dL,t2,c2,p⟩:=hw.Da hs his;obtain⟨bs,h1,h2⟩:=h;obtain⟨g1,g2,g3⟩:=hi.nN hw p;have f1:=(Bv o t).1;refine⟨bs,by rw[g3,p.ws.1.word];exact h1,fun q u hu=>?_⟩
 by_cases e:q=s
 . subst e
   rw[p.tt] at hu;obtain rfl:=zj hu;rw[g2.id,f1];exact h2 q t p.tx
 . rw[p.ox q e] at hu;exact h2 q u hu
theorem TI.aG (h:TI D) (hT:TT D) (hw:WF N L n D) (hs:s<8) {ak id:Nat} (Z:gG D s ak=some (aH,id)):TI aH∧TT aH:=by
 unfold gG at Z
 split at Z
 . rename_i hc
   obtain⟨-,-,ht,hcl,hmd,-,nP,-⟩:=hc;have ht':D.ag.getD s none=none:=by simpa using ht
   have hc':D.calls.getD s none=none:=by simpa using hcl
   have main:∀ az:St,TI az->Sh N L n az->az.aA=D.aA->az.ag=D.ag->az.calls=D.calls->az.word 0=D.word 0->az.aC=D.aC->az.aP=D.aP->TI (Em.bC D s ak az)∧TT (Em.bC D s ak az):=by
    intro az h2 hS e1 e2 e3 e4 e5 e6;have e:Em.bC D s ak az=Em.bC az s ak az:=by
     unfold Em.bC;rw[e1,e4];have:az.place (D.aA+1)=D.place (D.aA+1):=by unfold St.place;rw[e5]
     rw[this]
    have U7:=h2.bC (ak:=ak) (by rw[e1];exact hmd) hs hS (by rw[e2];exact ht') (by rw[e3];exact hc') (by rw[e4];exact nP);rw[e];refine⟨U7,?_⟩;obtain⟨bs,g1,g2⟩:=hT;have hx:∀ q,(Em.bC az s ak az).ag.getD q none=if q=s then some (eT (az.aA+1) ak (ai (az.word 0)+1)) else az.ag.getD q none:=by
     intro q;show (((({az with aA:=az.aA+1}:St).bP 0 (az.word 0) (aO (ai (az.word 0)+1) 0)).ag).set s _).getD q none=_;rw[(lH _ _ _ _).1];exact aM _ _ _ _ (by show s<az.ag.length;rw[hS.t8];exact hs)
    have U8:(Em.bC az s ak az).aP=D.aP++[{kind:=1,t:=az.aA+1,n:=ai (az.word 0)+1,op:=⟨0,0,0,ak⟩}]:=by
     show (({az with aA:=az.aA+1}:St).bP 0 (az.word 0) (aO (ai (az.word 0)+1) 0)).aP++_=_;rw[(lH _ _ _ _).2.1];show az.aP++_=_;rw[e6]
    have hw0:ai ((Em.bC az s ak az).word 0)=ai (az.word 0)+1:=by
     have hwd:(Em.bC az s ak az).words=((az.words.set 0 (aO (ai (az.word 0)+1) 0)).set (az.place (az.aA+1)) (pack 1 0)).set (1+s) (ai (az.word 0)+1):=by
      show (((({az with aA:=az.aA+1}:St).bP 0 (az.word 0) (aO (ai (az.word 0)+1) 0)).words.set (az.place (az.aA+1)) (pack 1 0)).set (1+s) (ai (az.word 0)+1))=_;rw[eG,aV (show ({az with aA:=az.aA+1}:St).word 0=az.word 0 from rfl)]
     have:(Em.bC az s ak az).word 0=aO (ai (az.word 0)+1) 0:=by
      show (Em.bC az s ak az).words.getD 0 0=_;rw[hwd,fK,aX (by omega),fK,aX (by rw[hS.place];omega),fK,aV ⟨rfl,by rw[hS.nw];omega⟩]
     rw[this];unfold ai aO;omega
    refine⟨(az.aA+1)::bs,?_,fun q u hu=>?_⟩
    . rw[U8,vH,g1,hw0,<-e4]
      show ma _ _=_;unfold ma;rw[aV rfl,aV ⟨rfl,by show 1<=az.aA+1;omega,by show az.aA+1<=2000;omega⟩]
    . rw[hx] at hu
      by_cases e:q=s
      . rw[aV e] at hu
        obtain rfl:=zj hu;exact lJ
      . rw[aX e,e2] at hu
        exact pq _ (g2 q u hu)
   split at Z
   . obtain⟨rfl,-⟩:=gZ _ _ _ _ ▸ zj Z
     exact main D.tick h.tick hw.sh.tick rfl rfl rfl rfl rfl rfl
   . rename_i hl0
     split at Z
     . rename_i hl2
       obtain⟨rfl,-⟩:=gZ _ _ _ _ ▸ zj Z;have hS:Sh N L n (D.tick.bT (D.word 0)):=by
        unfold St.bT;rw[hw.sh.tick.place];exact hw.sh.tick.bP (mJ (oZ (by omega) (eP ((hw.sh.wd 0).ck rfl).1 hw.sh.l1)))
       have hh:=h.tick.bT (hw.tick) (w:=D.word 0) hl0 hl2 h.ck.2.2;obtain⟨f1,f2,f3⟩:=zf D.tick (D.word 0);refine main _ hh hS ?_ f1 f3 ?_ ?_ f2
       . unfold St.bT St.bP;split<;>rfl
       . unfold St.bT
         rw[hw.sh.tick.place];show ((D.tick.bP _ _ _).words).getD 0 0=_;rw[eG]
         split
         . rw[fK,aX (by omega)];rfl
         . rfl
       . unfold St.bT St.bP;split<;>rfl
     . cases Z
 . cases Z
theorem Bw (N L q:Nat):(new N L).ag.getD q none=none:=by
 show (List.replicate 8 (none:Option bB)).getD q none=none;rw[mM]
 by_cases h:q<8
 . rw[List.getElem?_replicate,aV h];rfl
 . rw[List.getElem?_replicate,aX h];rfl
theorem vI (N L i:Nat):(new N L).word i=0:=by
 show (List.replicate _ 0).getD i 0=0;rw[mM,List.getElem?_replicate]
 split<;>rfl
theorem TI.new (N L:Nat):TI (new N L)∧TT (new N L):=by
 have hn:∀ {q u},(En.new N L).ag.getD q none=some u->False:=fun {q u} h=>by rw[Bw] at h;cases h
 refine⟨⟨fun _ _ _ _ a=>(hn a).elim,fun _ _ a=>(hn a).elim,fun _ _ a=>(hn a).elim,fun _ _ _ _ a=>(hn a).elim,fun _ _ a=>(hn a).elim,fun id h1 h2=>?_,fun id _ _=>vI N L _,⟨?_,zr _,fun _ _ a=>(hn a).elim⟩,fun _ _ _ a=>(hn a).elim,fun _ _ a=>(hn a).elim,fun _ _ a=>(hn a).elim⟩,[],?_,fun _ _ a=>(hn a).elim⟩
 . have:(En.new N L).aA=0:=rfl
   omega
 . rw[vI];exact zz _
 . rw[vI];rfl
end
def BP (D:St):Prop:=∀ s t,D.ag.getD s none=some t->match D.ig s with|some k=>TL t (fun E=>pend E k)|none=>TL t (fun _=>0)
def vJ (f:Nat->Nat):Nat:=f 0+f 1+f 2+f 3+f 4+f 5+f 6+f 7
def _root_.Go.Proofs.YthicolbbmjfkfaaGreat.En.St.KC (D:St) (N:Nat):Nat:=vJ (D.D7 N)
def _root_.Go.Proofs.YthicolbbmjfkfaaGreat.En.St.zw (D:St) (N s:Nat):Nat:=D.rem N s+D.KC N
section
variable {N L n s q cq d kd:Nat} {D τ υ aH az dL:St} {t t0 t2 u u2:bB} {c c2:dF} {r:ic} {k:K} {ok:Option K} {o:En.Op}
theorem kE (ht:D.ag.getD s none=some t) (hc:D.calls.getD s none=some c) (V:c.k=some k):D.rem N s=D.bV N t c k∧D.D7 N s=D.fM N c k∧D.late s=late k:=by
 unfold St.rem St.D7 St.late;rw[ht,hc];simp only[V];exact⟨trivial,trivial,trivial⟩
theorem qP (ht:D.ag.getD s none=some t) (hc:D.calls.getD s none=none):D.rem N s=11+D.aI t.reads∧D.D7 N s=6*N+1613∧D.late s=false:=by
 unfold St.rem St.D7 St.late;rw[ht,hc];exact⟨rfl,rfl,rfl⟩
theorem vK (ht:D.ag.getD s none=none) (hc:D.calls.getD s none=none):D.rem N s=0∧D.D7 N s=0∧D.late s=false:=by
 unfold St.rem St.D7 St.late;rw[ht,hc];exact⟨rfl,rfl,rfl⟩
theorem De (c:dF) (k:K) (N:Nat) (t:bB) (x:Bool):D.bV N t {c with waits:=x} k=D.bV N t c k∧D.fM N {c with waits:=x} k=D.fM N c k:=by
 constructor
 . cases k<;>first|rfl|(unfold St.bV St.dx;rfl)
 . cases k<;>rfl
theorem M0 (c:dF) (k:K) (N:Nat) (t:bB) (x:Option K):D.bV N t {c with k:=x} k=D.bV N t c k∧D.fM N {c with k:=x} k=D.fM N c k:=by
 constructor
 . cases k<;>first|rfl|(unfold St.bV St.dx;rfl)
 . cases k<;>rfl
theorem xP {α:Type} (l:List α) (f:α->List wG) (m:Nat) (h:∀ x∈l,(f x).length<=m):(l.flatMap f).length<=m*l.length:=by
 induction l with
 |nil=>exact zz _
 |cons a l ih=>
  rw[List.flatMap_cons,jF,List.length_cons,Nat.mul_add];have h1:=h a lJ;have h2:=ih (fun x hx=>h x (pq _ hx));omega
theorem TL.Df {p:Nat->Nat} (h:TL t p):t.keys.length<=64:=kX 64 t.keys h.kd (fun i hi=>h.kl i hi)
theorem vL (D:St) {p:Nat->Nat} (h:TL t p):(dY D t).length<=192:=by
 have h1:=h.Df
 have h2 := xP t.keys (fun E =>
   let x:=(t.cell E).getD default
   (if x.own≠0 then ⟨af x.own 0,0,t.ax⟩::(if x.there then [] else [⟨af x.own 1,0,t.ax⟩]) else [])
   ++(if x.old≠0 then [⟨af x.old 1,0,t.ax⟩] else [])) 3 (fun x _=>by
     simp only[jF]
     split<;>split<;>(try split)<;>simp)
 unfold dY;omega
theorem xQ (D:St) {p:Nat->Nat} (h:TL t p):(eU D t).length<=64:=by
 have h1:=h.Df
 have h2 := xP t.keys (fun E =>
   let x:=(t.cell E).getD default
   if x.old≠0 then [⟨af x.old 1,mine t,ever⟩] else []) 1 (fun x _=>by
     simp only
     split<;>simp)
 unfold eU;omega
theorem Fs (h:TI D) (hw:WF N L n D) (tl:BP D) (p:Stp N L n s D aH kd r t c k az ok t2 c2) (hl:late k=true):
 (∀ k',ok=some k'->late k'=true∧Cw.fM N k'+wt N (D.aF s {c with waits:=false}) s k<=Cw.fM N k∧TL t2 (fun E=>pend E k'))∧(ok=none->aH.ag.getD s none=none)∧wh (D.aF s {c with waits:=false}) s k=0∧wt N (D.aF s {c with waits:=false}) s k<=Cw.fM N k:=by
 have htl:=tl s t p.tx;rw[p.vS] at htl;have fw:TL t (fun _=>0):=htl.mono (fun _=>zz _)
 cases k with
 |wait i=>
  have hw0:wt N (D.aF s {c with waits:=false}) s (.wait i)=0:=by simp[wt,wa,wb,wp,wh]
  have e1:=p.run;simp only[St.run] at e1;have E:∀ k',ok=some k'->late k'=true∧Cw.fM N k'<=Cw.fM N (.wait i)∧(∀ E,pend E k'=0):=by
   intro k' ek;subst ek
   split at e1
   . obtain⟨_,e2⟩:=gZ _ _ _ _ ▸ e1
     obtain rfl:=zj e2;unfold iK
     split<;>exact⟨rfl,zr _,fun _=>rfl⟩
   . split at e1
     . obtain⟨_,e2⟩:=gZ _ _ _ _ ▸ e1
       obtain rfl:=zj e2;exact⟨rfl,zr _,fun _=>rfl⟩
     . obtain⟨_,e2⟩:=gZ _ _ _ _ ▸ e1
       obtain rfl:=zj e2;exact⟨rfl,zr _,fun _=>rfl⟩
  have ht2:t2=t:=by
   apply p.tt
   split at e1
   . obtain⟨e1,_⟩:=gZ _ _ _ _ ▸ e1
     rw[<-e1];exact p.tx
   . split at e1
     . obtain⟨e1,_⟩:=gZ _ _ _ _ ▸ e1
       rw[<-e1];exact p.tx
     . obtain⟨e1,_⟩:=gZ _ _ _ _ ▸ e1
       rw[<-e1];exact p.tx
  refine⟨fun k' ek=>⟨(E k' ek).1,by rw[hw0];exact (E k' ek).2.1,by rw[ht2];exact fw.mono (fun q=>Nat.le_of_eq ((E k' ek).2.2 q))⟩,fun e=>?_,rfl,by rw[hw0];exact zz _⟩;subst e
  split at e1
  . cases (gZ _ _ _ _ ▸ e1).2
  . split at e1<;>cases (gZ _ _ _ _ ▸ e1).2
 |bO=>
  obtain⟨_,rfl,_,e4⟩:=h.l9 hw p;have hw0:wt N (D.aF s {c with waits:=false}) s .bO=0:=by simp[wt,wa,wb,wp,wh]
  refine⟨fun k' ek=>?_,fun e=>(by rw[e4] at e;cases e),rfl,by rw[hw0];exact zz _⟩;rw[e4] at ek;obtain rfl:=zj ek;have hlen:=vL D fw;refine⟨rfl,?_,TL.mono (p:=fun _=>0) ⟨fw.mul,fw.kd,fw.kl⟩ (fun q=>by show (if 192<_ then 13 else 0)<=0;rw[aX (by omega)];exact zr _)⟩;rw[hw0];show 8*(dY D t).length+0<=6*N+1610;omega
 |abort e rs=>
  obtain⟨_,rfl,_,e4⟩:=h.nA hw p;have hw0:wt N (D.aF s {c with waits:=false}) s (.abort e rs)=6*N+10:=by simp[wt,wa,wb,wp,wh]
  refine⟨fun k' ek=>?_,fun e=>(by rw[e4] at e;cases e),rfl,by rw[hw0];show _<=6*N+1610;omega⟩;rw[e4] at ek;obtain rfl:=zj ek;have hlen:=xQ D fw;refine⟨rfl,?_,TL.mono (p:=fun _=>0) ⟨fw.mul,fw.kd,fw.kl⟩ (fun q=>by show (if 192<_ then 13 else 0)<=0;rw[aX (by omega)];exact zr _)⟩;rw[hw0];show 8*(eU D t).length+(6*N+10)<=6*N+1610;omega
 |turns l r0=>
  obtain⟨_,rfl,_,e4,e5⟩:=h.nC hw p
  cases l with
  |nil=>
   obtain⟨e5,e6⟩:=e5 rfl;have hw0:wt N (D.aF s {c with waits:=false}) s (.turns [] r0)=0:=by simp[wt,wa,wb,wp,wh]
   refine⟨fun k' ek=>(by rw[e5] at ek;cases ek),fun _=>?_,rfl,by rw[hw0];exact zz _⟩
   rcases (p.no e5).2.2.2 with ⟨g,_⟩|⟨_,g,_⟩
   . rw[e6] at g
     have:=p.xI.1;omega
   . exact g
  |cons x l=>
   have e4:=e4 x l rfl;have hw0:wt N (D.aF s {c with waits:=false}) s (.turns (x::l) r0)=8:=by simp[wt,wa,wb,wp,wh]
   refine⟨fun k' ek=>?_,fun e=>(by rw[e4] at e;cases e),rfl,by rw[hw0];show 8<=8*(l.length+1);omega⟩;rw[e4] at ek;obtain rfl:=zj ek;refine⟨rfl,?_,htl.mono (fun q=>by show (if 192<l.length then 13 else 0)<=(if 192<l.length+1 then 13 else 0);split<;>split<;>omega)⟩;rw[hw0];show 8*l.length+8<=8*(l.length+1);omega
 |_=>cases hl
theorem Fu (hw:WF N L n D) (hcw:WC N D) (tl:BP D) (p:Stp N L n s D aH kd r t c k az ok t2 c2) (hq:q≠s):
 aH.rem N q<=D.rem N q+3*wa (D.aF s {c with waits:=false}) s k+8*wb (D.aF s {c with waits:=false}) s k+(6*N+10)*wp (D.aF s {c with waits:=false}) s k+(3*N+120)*wh (D.aF s {c with waits:=false}) s k∧
 aH.D7 N q<=D.D7 N q+8*wh (D.aF s {c with waits:=false}) s k∧aH.late q=D.late q:=by
 obtain⟨C,O,hcs,_,hpv⟩:=hcw;have q0:Qt N D (D.aF s {c with waits:=false}):=Qt.aF D s _;have hE:=Hy (hcs.quiet q0) p.m p.xI ((hpv s c k p.ca p.ck).same q0 p.xI.lk);rw[p.run] at hE;have hws:Ws az aH:=by
  obtain⟨l,cs,ts,TM,e⟩:=p.e1;rw[e];exact⟨rfl,rfl⟩
 have hw1:wh (D.aF s {c with waits:=false}) s k<=1:=by
  cases k<;>simp only[wh]<;>first|omega|(split<;>omega)
 have Ik:aH.late q=D.late q:=by unfold St.late;rw[p.oc q hq]
 generalize wa (D.aF s {c with waits:=false}) s k=a at hE ⊢;generalize wb (D.aF s {c with waits:=false}) s k=b at hE ⊢;generalize wp (D.aF s {c with waits:=false}) s k=pp at hE ⊢;generalize wh (D.aF s {c with waits:=false}) s k=hh at hE hw1 ⊢;have hx1:=p.ox q hq;have hc1:=p.oc q hq;have hsc:Ws D (D.aF s {c with waits:=false}):=⟨rfl,rfl⟩
 have hE2:Ef N D az O a b pp hh c.op.E:=⟨hE.sl,hE.ck,hE.en,hE.st,hE.hd,fun E V=>by have:=hE.dh E V;rw[hsc.Dh] at this;exact this,hE.nx⟩
 cases ht:D.ag.getD q none with
 |none=>
  have hcn:D.calls.getD q none=none:=by
   cases e:D.calls.getD q none with
   |none=>rfl
   |some c'=>obtain⟨t',ht',_⟩:=hw.cx q c' e;rw[ht] at ht';cases ht'
  rw[ht] at hx1;rw[hcn] at hc1;obtain⟨e1,e2,e3⟩:=vK (N:=N) hx1 hc1;rw[e1,e2];exact⟨zz _,zz _,Ik⟩
 |some u=>
  rw[ht] at hx1;have hT:=hw.tx q u ht;have htl:=tl q u ht;have fw:TL u (fun _=>0):=by
   split at htl
   . exact htl.mono (fun _=>zz _)
   . exact htl
  have hC:cnt u c.op.E<=12:=by have:=fw.mul c.op.E;have:=hT.op;omega
  cases hc:D.calls.getD q none with
  |none=>
   rw[hc] at hc1;obtain⟨e1,e2,e3⟩:=qP (N:=N) hx1 hc1;obtain⟨f1,f2,f3⟩:=qP (N:=N) ht hc;rw[e1,e2,f1,f2];have hJ:=hE2.gY hw1 hT.rd hC;rw[hws.aI];have:(3*N+120)*hh=3*N*hh+120*hh:=Nat.add_mul _ _ _;exact⟨by omega,by omega,Ik⟩
  |some c'=>
   rw[hc] at hc1;obtain⟨u',hu',hcx⟩:=hw.cx q c' hc;rw[ht] at hu';obtain rfl:=zj hu';obtain⟨k',hk',hkk⟩:=hcx.k;obtain⟨e1,e2,e3⟩:=kE (N:=N) hx1 hc1 hk';obtain⟨f1,f2,f3⟩:=kE (N:=N) ht hc hk';rw[e1,e2,f1,f2,hws.bV,hws.fM];have g1:=hE2.bV hw1 hw.sh.n1 hT hkk (hpv q c' k' hc hk') hC;have g2:=hE2.fM hkk;exact⟨by omega,g2,Ik⟩
theorem KD {f g:Nat->Nat} {d:Nat} (hs:s<8) (h:∀ q,q≠s->g q<=f q+d):vJ g+f s<=vJ f+g s+7*d:=by
 have h0:=h 0;have h1:=h 1;have h2:=h 2;have h3:=h 3;have h4:=h 4;have h5:=h 5;have h6:=h 6;have h7:=h 7;unfold vJ
 rcases (by omega:s=0∨s=1∨s=2∨s=3∨s=4∨s=5∨s=6∨s=7) with rfl|rfl|rfl|rfl|rfl|rfl|rfl|rfl<;>omega
theorem Bz (h:TI D) (hw:WF N L n D) (hcw:WC N D) (tl:BP D) (hs:s<8) (p:Stp N L n s D aH kd r t c k az ok t2 c2):
 (∀ q,q≠s->aH.zw N q<=D.zw N q)∧(if late k then aH.zw N s<=D.zw N s∧(aH.ag.getD s none=none∨aH.late s=true) else aH.zw N s+1<=D.zw N s)∧BP aH:=by
 have hws:Ws az aH:=by
  obtain⟨l,cs,ts,TM,e⟩:=p.e1;rw[e];exact⟨rfl,rfl⟩
 have htl:=tl s t p.tx;rw[p.vS] at htl;have fw:TL t (fun _=>0):=htl.mono (fun _=>zz _);obtain⟨f1,f2,f3⟩:=kE (N:=N) p.tx p.ca p.ck;have hoth:=fun q hq=>Fu (q:=q) hw hcw tl p hq
 have hsum:=KD (f:=D.D7 N) (g:=aH.D7 N) (d:=8*wh (D.aF s {c with waits:=false}) s k) hs (fun q hq=>(hoth q hq).2.1);have KE:∀ q u,q≠s->aH.ag.getD q none=some u->match aH.ig q with|some k=>TL u (fun E=>pend E k)|none=>TL u (fun _=>0):=by
  intro q u hq hu;rw[p.ox q hq] at hu;have:aH.ig q=D.ig q:=by unfold St.ig;rw[p.oc q hq]
  rw[this];exact tl q u hu
 have hwt:wt N (D.aF s {c with waits:=false}) s k=3*wa (D.aF s {c with waits:=false}) s k+8*wb (D.aF s {c with waits:=false}) s k+(6*N+10)*wp (D.aF s {c with waits:=false}) s k+(3*N+176)*wh (D.aF s {c with waits:=false}) s k:=rfl;have hmul:(3*N+176)*wh (D.aF s {c with waits:=false}) s k=(3*N+120)*wh (D.aF s {c with waits:=false}) s k+56*wh (D.aF s {c with waits:=false}) s k:=by
  rw[<-Nat.add_mul]
 have Z:D.D7 N s=D.fM N c k:=f2;have main:∀ B aa,aH.D7 N s<=B->B+wt N (D.aF s {c with waits:=false}) s k<=D.fM N c k->aH.rem N s<=aa->(∀ q,q≠s->aH.zw N q<=D.zw N q)∧aH.zw N s+D.rem N s<=D.zw N s+aa:=by
  intro B aa h1 h2 h3;rw[hwt,hmul] at h2;unfold St.zw St.KC;refine⟨fun q hq=>?_,by omega⟩;have:=(hoth q hq).1;omega
 by_cases hl:late k=true
 . rw[aV hl]
   obtain⟨g1,g2,g3,g4⟩:=Fs h hw tl p hl;have hbk:Cw.fM N k<=D.fM N c k:=Nat.le_add_right _ _
   cases ok with
   |none=>
    have vF:=g2 rfl;obtain⟨e1,e2,e3⟩:=vK (N:=N) vF (p.no rfl).2.2.1;obtain⟨m1,m2⟩:=main 0 0 (by omega) (by omega) (by omega);refine⟨m1,⟨by omega,.inl vF⟩,fun q u hu=>?_⟩
    by_cases e:q=s
    . subst e;rw[vF] at hu;cases hu
    . exact KE q u e hu
   |some k'=>
    obtain⟨a1,a2,a3⟩:=g1 k' rfl;obtain⟨_,_,hc1,ht1,_⟩:=p.go k' rfl;obtain⟨e1,e2,e3⟩:=kE (N:=N) ht1 hc1 rfl;have e4:aH.fM N {c2 with k:=some k'} k'=Cw.fM N k':=by
     cases k'<;>first|rfl|cases a1
    have e5:aH.bV N t2 {c2 with k:=some k'} k'=0:=by
     cases k'<;>first|rfl|cases a1
    obtain⟨m1,m2⟩:=main (Cw.fM N k') 0 (by rw[e2,e4];exact zr _) (by omega) (by omega);refine⟨m1,⟨by omega,.inr (by rw[e3];exact a1)⟩,fun q u hu=>?_⟩
    by_cases e:q=s
    . subst e
      rw[ht1] at hu;obtain rfl:=zj hu;rw[p.jG rfl];exact a3
    . exact KE q u e hu
 . have hl':late k=false:=by simpa using hl
   rw[aX hl]
   by_cases hf:∃ r',k=.fin r'
   . obtain⟨r',rfl⟩:=hf
     have hok:ok=none:=by
      have e1:=p.run;simp only[St.run] at e1;exact (gZ _ _ _ _ ▸ e1).2.symm
     subst hok;obtain⟨_,hts,_⟩:=h.Ig hw p rfl;have Sj:c2.r.over=0:=by
      have e1:=p.run;simp only[St.run] at e1;obtain⟨e1,_⟩:=gZ _ _ _ _ ▸ e1;obtain⟨d,m2⟩:=p.m2;rw[<-m2.ec,<-e1];unfold St.finish St.c St.aF;simp only;rw[aM _ _ _ _ (by show s<(D.calls.set s _).length;rw[pz,hw.sh.c8];exact p.m.s8),aV rfl];exact p.xI.1
     have ht2:t2=t:=by
      apply p.tt;have e1:=p.run;simp only[St.run] at e1;obtain⟨e1,_⟩:=gZ _ _ _ _ ▸ e1;rw[<-e1];exact p.tx
     subst ht2;have ht1:aH.ag.getD s none=some t2:=by
      rcases (p.no rfl).2.2.2 with ⟨_,g,_⟩|⟨g,_⟩
      . exact g
      . exact absurd Sj g
     obtain⟨e1,e2,e3⟩:=qP (N:=N) ht1 (p.no rfl).2.2.1;have hsw:Ws D aH:=by
      have e1:=p.run;simp only[St.run] at e1;obtain⟨e1,_⟩:=gZ _ _ _ _ ▸ e1;refine Ws.trans ?_ hws;rw[<-e1];exact⟨rfl,rfl⟩
     have hw0:wt N (D.aF s {c with waits:=false}) s (.fin r')=0:=by simp[wt,wa,wb,wp,wh]
     have hbk:D.fM N c (.fin r')=6*N+1613:=rfl;have NK:D.bV N t2 c (.fin r')=12+D.aI t2.reads:=rfl;obtain⟨m1,m2⟩:=main (6*N+1613) (11+D.aI t2.reads) (by omega) (by omega) (by rw[e1,hsw.aI];exact zr _);refine⟨m1,by rw[f1,NK] at m2;omega,fun q u hu=>?_⟩
     by_cases e:q=s
     . subst e
       rw[ht1] at hu;obtain rfl:=zj hu;rw[p.Fp rfl];exact fw
     . exact KE q u e hu
   . obtain⟨C,O,hcs,_,hpv⟩:=hcw
     have q0:Qt N D (D.aF s {c with waits:=false}):=Qt.aF D s _;obtain⟨b,B,h1,h2,h3⟩:=H9 (hcs.quiet q0) p.m p.xI ((hpv s c k p.ca p.ck).same q0 p.xI.lk) htl hl' (fun r' e=>hf ⟨r',e⟩);rw[p.run] at h3;obtain⟨k',d,e0,_,t',c',m',g1,g2,g3⟩:=h3;subst e0;simp only at m' g1 g2 g3;obtain⟨d2,m2⟩:=p.m2;have et:t2=t':=zj (m2.tx.symm.trans m'.tx);have ec:c2=c':=zj (m2.ca.symm.trans m'.ca);subst et;subst ec;obtain⟨_,_,hc1,ht1,_⟩:=p.go k' rfl;obtain⟨e1,e2,e3⟩:=kE (N:=N) ht1 hc1 rfl;obtain⟨x1,x2⟩:=M0 (D:=aH) c2 k' N t2 (some k');obtain⟨y1,y2⟩:=De (D:=D.aF s {c with waits:=false}) c k N t false;rw[y1] at h1;rw[y2] at h2;have hsc:Ws D (D.aF s {c with waits:=false}):=⟨rfl,rfl⟩
     have z1:(D.aF s {c with waits:=false}).bV N t c k=D.bV N t c k:=hsc.bV N t c k;have z2:(D.aF s {c with waits:=false}).fM N c k=D.fM N c k:=hsc.fM N c k;rw[z1] at h1;rw[z2] at h2;obtain⟨m1,m2⟩:=main B b (by rw[e2,x2,hws.fM];exact g2) h2 (by rw[e1,x1,hws.bV];exact g1);refine⟨m1,by rw[f1] at m2;omega,fun q u hu=>?_⟩
     by_cases e:q=s
     . subst e
       rw[ht1] at hu;obtain rfl:=zj hu;rw[p.jG rfl];exact g3
     . exact KE q u e hu
end
def Eh (t:bB):Option K->Nat
 |none=>1
 |some .draw|some (.dJ _ _)|some (.turn _ _)|some (.abort _ _)|some (.turns _ _)=>1
 |some _=>if t.ax=0 then 2 else 1
def _root_.Go.Proofs.YthicolbbmjfkfaaGreat.En.St.BA (D:St) (s:Nat):Nat:=
 match D.ag.getD s none with
 |none=>0
 |some t=>(2000 - t.aJ.length)+(if t.ax=0 then 1 else 0)+(if t.over then 0 else 1)+Eh t (D.ig s)
def _root_.Go.Proofs.YthicolbbmjfkfaaGreat.En.St.IP (D:St):Nat:=D.aP.length+vJ D.BA
section
variable {N L n s q cq d kd ae M:Nat} {D τ υ aH az dL:St} {t t0 t2 u u2:bB} {c c2:dF} {r:ic} {k:K} {ok:Option K} {o:En.Op}
theorem TI.aJ (h:TI D) (hm:D.aA<=2000) (ht:D.ag.getD s none=some t):t.aJ.length<=D.aA:=by
 obtain⟨h1,h2⟩:=h.bo s t ht
 have h3 := kX (D.aA + 1) (0 :: t.aJ) (by
   rw[List.nodup_cons]
   exact⟨fun hz=>by have:=(h2 0 hz).1;omega,h1⟩) (fun i hi=>by
   rcases List.mem_cons.1 hi with rfl|hi
   . omega
   . have:=(h2 i hi).2.1;omega)
 simp at h3;omega
theorem Il {f g:Nat->Nat} (hs:s<8) (h:∀ q,q≠s->g q=f q):vJ g+f s=vJ f+g s:=by
 have h0:=h 0;have h1:=h 1;have h2:=h 2;have h3:=h 3;have h4:=h 4;have h5:=h 5;have h6:=h 6;have h7:=h 7;unfold vJ
 rcases (by omega:s=0∨s=1∨s=2∨s=3∨s=4∨s=5∨s=6∨s=7) with rfl|rfl|rfl|rfl|rfl|rfl|rfl|rfl<;>omega
theorem p9 (t:bB) (k:Option K):1<=Eh t k∧Eh t k<=2:=by
 unfold Eh;split<;>(try split)<;>omega
theorem Im (h:TI D) (hw:WF N L n D) (hs:s<8) (p:Stp N L n s D aH kd r t c k az ok t2 c2):aH.IP<=D.IP:=by
 have hoth:∀ q,q≠s->aH.BA q=D.BA q:=by
  intro q hq;have:aH.ig q=D.ig q:=by unfold St.ig;rw[p.oc q hq]
  unfold St.BA;rw[p.ox q hq,this]
 have hsum:=Il (s:=s) hs hoth;have hmd:=hw.sh.md;have Z:=h.aJ hmd p.tx;have hg:D.BA s=(2000 - t.aJ.length)+(if t.ax=0 then 1 else 0)+(if t.over then 0 else 1)+Eh t (some k):=by
  unfold St.BA;rw[p.tx,p.vS]
 have Sk:=(h.Eg hw p).1;have main:∀ x,az.aP.length+(2000 - t2.aJ.length)+(if t2.ax=0 then 1 else 0)+(if t2.over then 0 else 1)<=D.aP.length+(2000 - t.aJ.length)+(if t.ax=0 then 1 else 0)+(if t.over then 0 else 1)->
  (∀ k',ok=some k'->Eh t2 (some k')<=Eh t (some k))->(ok=none->aH.ag.getD s none=none∨Eh t (some k)=2)->x=()->aH.IP<=D.IP:=by
  intro _ h1 h2 h3 _;unfold St.IP
  cases ok with
  |some k'=>
   obtain⟨_,_,hc1,ht1,htl⟩:=p.go k' rfl;have hg1:aH.BA s=(2000 - t2.aJ.length)+(if t2.ax=0 then 1 else 0)+(if t2.over then 0 else 1)+Eh t2 (some k'):=by
    unfold St.BA;rw[ht1,p.jG rfl]
   have:=h2 k' rfl;rw[htl];omega
  |none=>
   have hk0:=p.Fp rfl
   rcases (p.no rfl).2.2.2 with ⟨_,ht1,htl⟩|⟨_,ht1,htl⟩
   . have hg1:aH.BA s=(2000 - t2.aJ.length)+(if t2.ax=0 then 1 else 0)+(if t2.over then 0 else 1)+1:=by
      unfold St.BA;rw[ht1,hk0];rfl
     rcases h3 rfl with h3|h3
     . rw[ht1] at h3;cases h3
     . rw[htl,jF,List.length_singleton]
       omega
   . have hg1:aH.BA s=0:=by unfold St.BA;rw[ht1]
     rw[htl];omega
 have Sl:∀ (u:bB) (k':K),u.ax≠0->Eh u (some k')=1:=by
  intro u k' hu;unfold Eh
  split<;>first|rfl|rw[aX hu]
 by_cases hA:Ky k=true
 . obtain⟨_,hts,htl,hal⟩:=h.Ig hw p hA
   have hb2:=Sk.aJ (by rw[p.aA];exact hmd) hal;rw[p.aA] at hb2;refine main () ?_ (fun k' ek=>?_) (fun e=>?_) rfl
   . rw[hts.en,hts.ov]
     rcases htl with ⟨e1,e2⟩|⟨b,_,_,e1,e2⟩
     . rw[e1,e2];exact zr _
     . rw[e1,jF,List.length_singleton] at hb2
       rw[e1,e2,jF,jF,List.length_singleton,List.length_singleton];omega
   . have h1:=p9 t2 (some k');have h2:=p9 t (some k)
     by_cases h0:t.ax=0
     . cases k with
       |draw=>
        have e1:=p.run;simp only[St.run] at e1;subst ek;have:Eh t2 (some k')=1:=by
         split at e1
         . obtain⟨_,e2⟩:=gZ _ _ _ _ ▸ e1
           obtain rfl:=zj e2;rfl
         . split at e1
           . obtain⟨_,e2⟩:=gZ _ _ _ _ ▸ e1
             obtain rfl:=zj e2;rfl
           . obtain⟨_,e2⟩:=gZ _ _ _ _ ▸ e1
             obtain rfl:=zj e2;rfl
        omega
       |dJ w now=>cases hA
       |turn w now=>cases hA
       |dD=>cases hA
       |bO=>cases hA
       |abort e r=>cases hA
       |turns l r=>cases hA
       |_=>show Eh t2 (some k')<=(if t.ax=0 then 2 else 1);rw[aV h0];exact h1.2
     . have:=Sl t2 k' (by rw[hts.en];exact h0)
       omega
   . obtain⟨r',rfl⟩:=vC hA (by rw[p.run];exact e)
     right;have yZ:KT (pI D t) (kI D) t (.fin r'):=by
      rcases h.kk s t _ p.tx p.vS with ⟨l,r,e⟩|hx
      . cases e
      . exact hx
     have:t.ax=0:=yZ;simp only[Eh,aV this]
 . cases k with
   |dJ w now=>
    obtain⟨_,rfl,h3⟩:=h.vD hw p;have e1:=p.run;simp only[St.run] at e1;obtain⟨_,e2⟩:=gZ _ _ _ _ ▸ e1;refine main () (by rw[h3];exact zr _) (fun k' ek=>?_) (fun e=>by rw[e] at e2;cases e2) rfl;rw[ek] at e2;obtain rfl:=zj e2;exact zr _
   |turn w now=>
    obtain⟨_,⟨_,rfl,h3,_,e2⟩|⟨_,rfl,h3,_,e2⟩⟩:=h.xM hw p
    . refine main () (by rw[h3];exact zr _) (fun k' ek=>?_) (fun e=>by rw[e] at e2;cases e2) rfl
      rw[ek] at e2;obtain rfl:=zj e2;exact zr _
    . have yZ:KT (pI D t) (kI D) t (.turn w now):=by
       rcases h.kk s t _ p.tx p.vS with ⟨l,r,e⟩|hx
       . cases e
       . exact hx
      refine main () ?_ (fun k' ek=>?_) (fun e=>by rw[e] at e2;cases e2) rfl
      . rw[h3,jF,List.length_singleton,aV yZ.1]
        show D.aP.length+1+(2000 - t.aJ.length)+(if ai (D.word 0)+1=0 then 1 else 0)+(if t.over then 0 else 1)<=_;rw[aX (by omega)];omega
      . rw[Sl _ k' (by show ai (D.word 0)+1≠0;omega)]
        exact (p9 t _).1
   |dD=>
    obtain⟨_,rfl,h3⟩:=h.vE hw p;have yZ:KT (pI D t2) (kI D) t2 .dD:=by
     rcases h.kk s t2 _ p.tx p.vS with ⟨l,r,e⟩|hx
     . cases e
     . exact hx
    have e1:=p.run;simp only[St.run] at e1;obtain⟨_,e2⟩:=gZ _ _ _ _ ▸ e1;refine main () (by rw[h3];exact zr _) (fun k' ek=>?_) (fun e=>by rw[e] at e2;cases e2) rfl;rw[Sl _ k' yZ];exact (p9 t2 _).1
   |bO=>
    obtain⟨_,rfl,h3,e2⟩:=h.l9 hw p;refine main () ?_ (fun k' ek=>?_) (fun e=>by rw[e] at e2;cases e2) rfl
    . rw[h3]
      show _+(2000 - t.aJ.length)+(if t.ax=0 then 1 else 0)+0<=_
      split
      . exact zr _
      . rw[jF,List.length_singleton];omega
    . rw[ek] at e2
      obtain rfl:=zj e2;exact (p9 t _).1
   |abort e rs=>
    obtain⟨_,rfl,h3,e2⟩:=h.nA hw p;refine main () ?_ (fun k' ek=>?_) (fun e=>by rw[e] at e2;cases e2) rfl
    . rw[h3]
      show _+(2000 - t.aJ.length)+(if t.ax=0 then 1 else 0)+0<=_
      split
      . exact zr _
      . rw[jF,List.length_singleton];omega
    . rw[ek] at e2
      obtain rfl:=zj e2;exact (p9 t _).1
   |turns l r0=>
    obtain⟨_,rfl,h3,e4,e5⟩:=h.nC hw p;refine main () (by rw[h3];exact zr _) (fun k' ek=>?_) (fun e=>?_) rfl
    . cases l with
      |nil=>rw[(e5 rfl).1] at ek;cases ek
      |cons x l=>
       rw[e4 x l rfl] at ek;obtain rfl:=zj ek;exact zr _
    . cases l with
      |nil=>
       have V:=p.xI.1
       rcases (p.no e).2.2.2 with ⟨g,_⟩|⟨_,g,_⟩
       . rw[(e5 rfl).2] at g;omega
       . exact .inl g
      |cons x l=>rw[e4 x l rfl] at e;cases e
   |_=>exact absurd rfl hA
end
def gP (f:Nat->Nat):Nat->Nat
 |0=>0
 |m+1=>gP f m+f m
section
variable {N L n s q cq d kd ae M:Nat} {D τ υ aH az dL:St} {t t0 t2 u u2:bB} {c c2:dF} {r:ic} {k:K} {ok:Option K} {o:En.Op} {C:Nat->List Nat} {O:Nat->Nat}
theorem Ei {f g:Nat->Nat} (m:Nat) (h:∀ i,i<m->f i<=g i):gP f m<=gP g m:=by
 induction m with
 |zero=>exact zr _
 |succ m ih=>have:=ih (fun i hi=>h i (by omega));have:=h m (by omega);show gP f m+f m<=gP g m+g m;omega
theorem vM (f g:Nat->Nat) (m:Nat):gP (fun i=>f i+g i) m=gP f m+gP g m:=by
 induction m with
 |zero=>rfl
 |succ m ih=>show gP _ m+(f m+g m)=gP f m+f m+(gP g m+g m);omega
theorem BB (a:Nat) (f:Nat->Nat) (m:Nat):gP (fun i=>a*f i) m=a*gP f m:=by
 induction m with
 |zero=>rfl
 |succ m ih=>show gP _ m+a*f m=a*(gP f m+f m);rw[Nat.mul_add,ih]
theorem BC (x v:Nat) (m:Nat):gP (fun i=>if x=i then v else 0) m=if x<m then v else 0:=by
 induction m with
 |zero=>rfl
 |succ m ih=>
  show gP _ m+(if x=m then v else 0)=_;rw[ih]
  split<;>split<;>split<;>omega
theorem nD (v m:Nat):gP (fun _=>v) m=v*m:=by
 induction m with
 |zero=>rfl
 |succ m ih=>show gP _ m+v=_;rw[ih,Nat.mul_succ]
theorem Fv (f:Nat->Nat) {m k:Nat} (h:m<=k):gP f m<=gP f k:=by
 induction k with
 |zero=>
  have:m=0:=by omega
  rw[this];exact zr _
 |succ k ih=>
  by_cases e:m=k+1
  . rw[e];exact zr _
  . have:=ih (by omega);show gP f m<=gP f k+f k;omega
theorem CS.Sm (h:CS N D C O) (hN:N<=256):∀ m,m<=64->∃ l:List Nat,l.Nodup∧l.length=gP (D.Dh) m∧∀ x∈l,x<N∧1<=O x∧O x<=m:=by
 intro m
 induction m with
 |zero=>intro _;exact⟨[],List.nodup_nil,rfl,fun x hx=>by cases hx⟩
 |succ m ih=>
  intro hm;obtain⟨l,h1,h2,h3⟩:=ih (by omega);refine⟨l++(C m).map aj,?_,?_,fun x hx=>?_⟩
  . rw[List.nodup_append]
    refine⟨h1,h.nd m (by omega),fun a ha b Z e=>?_⟩;obtain⟨y,hy,rfl⟩:=List.mem_map.1 Z;have h4:=(h.lo m (by omega) y hy).2;have h5:=(h3 a ha).2.2;rw[e] at h5;omega
  . rw[jF,List.length_map,h2]
    show _=gP D.Dh m+D.Dh m;rw[(h.Dh hN (by omega)).1]
  . rcases List.mem_append.1 hx with hx|hx
    . have:=h3 x hx;omega
    . obtain⟨y,hy,rfl⟩:=List.mem_map.1 hx
      have h4:=h.lo m (by omega) y hy;have:=h4.1.aj;omega
theorem CS.Io (h:CS N D C O) (hN:N<=256):gP D.cost 64<=128+6*N:=by
 obtain⟨l,h1,h2,h3⟩:=h.Sm hN 64 (by omega);have h4:=kX N l h1 (fun x hx=>(h3 x hx).1);have h5:gP D.cost 64=gP (fun _=>2) 64+gP (fun i=>6*D.Dh i) 64:=by
  rw[<-vM];rfl
 rw[h5,nD,BB];omega
theorem Fw (υ:St) (l:List (Nat×Nat×Bool)) (hl:∀ r∈l,r.1<64):υ.aI l=gP (fun k=>l.countP (fun r=>r.1==k)*υ.cost k) 64:=by
 induction l with
 |nil=>
  have:(fun k=>([]:List (Nat×Nat×Bool)).countP (fun r=>r.1==k)*υ.cost k)=fun _=>0:=by
   funext k;simp
  rw[this,nD];rfl
 |cons r l ih=>
  have h1:=ih (fun r hr=>hl r (pq _ hr));have h2:υ.aI (r::l)=υ.cost r.1+υ.aI l:=by
   unfold St.aI;rw[List.map_cons,List.sum_cons]
  have h3:(fun k=>(r::l).countP (fun r=>r.1==k)*υ.cost k)=fun k=>l.countP (fun r=>r.1==k)*υ.cost k+(if r.1=k then υ.cost r.1 else 0):=by
   funext k
   rw[List.countP_cons]
   by_cases e:r.1=k
   . rw[aV e,show (r.1==k)=true by simpa using e,aV rfl,Nat.add_mul,Nat.one_mul,e]
   . rw[aX e,show (r.1==k)=false by simpa using e,aX (by decide)];simp
  rw[h2,h1,h3,vM,BC,aV (hl r lJ)];omega
theorem Fx (l:List (Nat×Nat×Bool)) (hl:∀ r∈l,r.1<64):l.length=gP (fun k=>l.countP (fun r=>r.1==k)) 64:=by
 induction l with
 |nil=>
  have:(fun k=>([]:List (Nat×Nat×Bool)).countP (fun r=>r.1==k))=fun _=>0:=by funext k;simp
  rw[this,nD];rfl
 |cons r l ih=>
  have h1:=ih (fun r hr=>hl r (pq _ hr));have h3:(fun k=>(r::l).countP (fun r=>r.1==k))=fun k=>l.countP (fun r=>r.1==k)+(if r.1=k then 1 else 0):=by
   funext k
   rw[List.countP_cons]
   by_cases e:r.1=k
   . rw[aV e,show (r.1==k)=true by simpa using e,aV rfl]
   . rw[aX e,show (r.1==k)=false by simpa using e,aX (by decide)]
  rw[h3,vM,BC,aV (hl r lJ),List.length_cons];omega
theorem BD (υ:St) (l:List (Nat×Nat×Bool)) (hl:∀ r∈l,r.1<64) (hc:∀ k,l.countP (fun r=>r.1==k)<=12):υ.aI l<=12*gP υ.cost 64:=by
 rw[Fw υ l hl,<-BB];exact Ei _ (fun i _=>Nat.mul_le_mul_right _ (hc i))
theorem Ip (υ:St):∀ (m k:Nat),υ.iH m k+2*gP υ.cost k=2*gP υ.cost (k+m):=by
 intro m
 induction m with
 |zero=>intro k;show 0+_=_;rw[Nat.add_zero];omega
 |succ m ih=>
  intro k;have h1:=ih (k+1);have h2:gP υ.cost (k+1)=gP υ.cost k+υ.cost k:=rfl;show 2*υ.cost k+υ.iH m (k+1)+_=_;rw[show k+(m+1)=k+1+m by omega];omega
theorem KF (υ:St) {m k:Nat} (h:k+m<=64):υ.iH m k<=2*gP υ.cost 64:=by
 have h1:=Ip υ m k;have h2:=Fv υ.cost h;omega
set_option maxHeartbeats 1600000 in
theorem M3 (h:CS N D C O) (hN:N<=256) (hT:TX N L n t) (V:uM N L t c k) (hp:Pv N D O s cq k) (hc:∀ E,cnt t E<=12) (hop:c.op.E<64):D.bV N t c k<=2300+102*N:=by
 have hS:=h.Io hN;have hJ:D.aI t.reads<=12*gP D.cost 64:=BD D t.reads hT.rd hc;have hC:∀ E,E<64->D.cost E<=2+6*N:=fun E V=>by have:=(h.Dh hN V).2;unfold St.cost;omega
 have hA:∀ hu:dw,gp t c hu->D.dx t c hu<=402+6*N+14*gP D.cost 64:=by
  intro hu hh;have h1:=hC hu.E hh.1;unfold St.dx;have h2:=hh.2
  split at h2
  . rename_i e1;simp only[e1];omega
  . rename_i k e1
    simp only[e1];have:=KF D (m:=c.op.hi - k) (k:=k+1) (by have:=hh.1;omega);omega
  . rename_i e1;simp only[e1];omega
  . rename_i i l e1
    simp only[e1];have:=sD D t.reads (i+1);omega
 have hsg:∀ mb,D.sg N mb<=6*N+10:=fun mb=>by unfold St.sg;split<;>omega
 have hst:∀ i v x,D.st i v x<=x:=fun i v x=>by unfold St.st;split<;>omega
 have hD:∀ l,Path N D O cq l->l≠0->D.Dn l<=N:=fun l hp hl=>by have:=hp.zp hN;have:=this.2 hl;omega
 cases k with
 |fin r=>simp only[St.bV];omega
 |start hu=>have:=hA hu V;have:=hC hu.E V.1;simp only[St.bV];omega
 |visit hu l=>have:=hA hu V.1;have:=hD l hp V.2.ne;simp only[St.bV];omega
 |maker hu l id=>have:=hA hu V.1;have:=hD l hp V.2.1.ne;simp only[St.bV];omega
 |older hu l=>have:=hA hu V.1;have:=hD l hp V.2.ne;simp only[St.bV];omega
 |ended hu l mb=>have:=hA hu V.1;have:=hD l hp V.2.1.ne;have:=hsg mb;simp only[St.bV];omega
 |eY hu l mb id=>have:=hA hu V.1;have:=hD l hp V.2.1.ne;have:=hsg mb;simp only[St.bV];omega
 |seen hu l mb=>have:=hA hu V.1;have:=hD l hp V.2.1.ne;have:=hsg mb;simp only[St.bV];omega
 |again en=>simp only[St.bV];omega
 |own l=>simp only[St.bV];omega
 |fG l w id=>have:=hst (af l 1) w 8;simp only[St.bV];omega
 |claim l w=>have:=hst (af l 1) w 8;simp only[St.bV];omega
 |fresh l=>have:=(h.Dh hN hop).2;simp only[St.bV];omega
 |next l head a=>have:=hD a hp.2 V.2.2.1.ne;have:=hst (9+c.op.E) head (3*N+20);simp only[St.bV];omega
 |free l head a=>have:=hD a hp.2 V.2.2.1.ne;have:=hst (9+c.op.E) head (3*N+20);simp only[St.bV];omega
 |dB l head a id=>have:=hD a hp.2 V.2.2.1.ne;have:=hst (9+c.op.E) head (3*N+20);simp only[St.bV];omega
 |dX x l head=>have:=hst (9+c.op.E) head (3*N+20);simp only[St.bV];cases x<;>simp<;>omega
 |dM x l head=>have:=hst (9+c.op.E) head (3*N+20);simp only[St.bV];cases x<;>simp<;>omega
 |push l head=>have:=hst (9+c.op.E) head (3*N+20);simp only[St.bV];omega
 |dC l head=>have:=hst (9+c.op.E) head (3*N+20);simp only[St.bV];omega
 |over l=>simp only[St.bV];omega
 |fU l head=>have:=hst (9+c.op.E) head 8;simp only[St.bV];omega
 |dI l head=>have:=hst (9+c.op.E) head 8;simp only[St.bV];omega
 |draw=>simp only[St.bV];omega
 |dJ w now=>have:=hst 0 w 3;simp only[St.bV];omega
 |turn w now=>have:=hst 0 w 3;simp only[St.bV];omega
 |dD=>simp only[St.bV];omega
 |wait i=>exact zz _
 |bO=>exact zz _
 |abort e r=>exact zz _
 |turns l r=>exact zz _
theorem M8 (k:K) (hl:∀ l r,k=.turns l r->l.length<=192):D.fM N c k<=9*N+2008:=by
 have hst:∀ i v x,D.st i v x<=x:=fun i v x=>by unfold St.st;split<;>omega
 have hx:D.xs c k<=8:=by
  unfold St.xs
  split
  all_goals first|exact hst _ _ _|exact zz _|(split<;>first|exact hst _ _ _|exact zz _)
 have Z:Cw.fM N k<=9*N+2000:=by
  unfold Cw.fM qM
  split
  all_goals first|omega|(split<;>omega)|skip
  rename_i l r;have:=hl l r rfl;omega
 unfold St.fM;omega
theorem M9 (hw:WF N L n D) (hcw:WC N D) (tl:BP D) (s:Nat):D.zw N s<=18364+174*N:=by
 obtain⟨C,O,hcs,_,hpv⟩:=hcw;have hN:=hw.sh.n1;have Z:∀ q,D.D7 N q<=9*N+2008∧D.rem N q<=2300+102*N:=by
  intro q
  cases ht:D.ag.getD q none with
  |none=>
   have hcn:D.calls.getD q none=none:=by
    cases e:D.calls.getD q none with
    |none=>rfl
    |some c'=>obtain⟨t',ht',_⟩:=hw.cx q c' e;rw[ht] at ht';cases ht'
   obtain⟨e1,e2,e3⟩:=vK (N:=N) ht hcn;rw[e1,e2];exact⟨zz _,zz _⟩
  |some t=>
   have hT:=hw.tx q t ht;have htl:=tl q t ht
   cases hc:D.calls.getD q none with
   |none=>
    obtain⟨e1,e2,e3⟩:=qP (N:=N) ht hc;have hk0:D.ig q=none:=by unfold St.ig;rw[hc];rfl
    rw[hk0] at htl;have hS:=hcs.Io hN;have hJ:D.aI t.reads<=12*gP D.cost 64:=BD D t.reads hT.rd (fun E=>by have:=htl.mul E;have:=hT.op;show cnt t E<=12;omega);rw[e1,e2];exact⟨by omega,by omega⟩
   |some c=>
    obtain⟨u',hu',hcx⟩:=hw.cx q c hc;rw[ht] at hu';obtain rfl:=zj hu';obtain⟨k',hk',hkk⟩:=hcx.k;obtain⟨e1,e2,e3⟩:=kE (N:=N) ht hc hk';have hk0:D.ig q=some k':=by unfold St.ig;rw[hc];exact hk'
    rw[hk0] at htl;rw[e1,e2];refine⟨M8 k' (fun l r e=>?_),M3 hcs hN hT hkk (hpv q c k' hc hk') (fun E=>by have:=htl.mul E;have:=hT.op;omega) (Bu hcx.op)⟩;subst e;have h1:=htl.mul 0;have h2:=hT.op;simp only[pend] at h1
    split at h1<;>omega
 have h1:=(Z s).2;have h2:D.KC N<=8*(9*N+2008):=by
  unfold St.KC vJ;have a0:=(Z 0).1;have a1:=(Z 1).1;have a2:=(Z 2).1;have a3:=(Z 3).1;have a4:=(Z 4).1;have a5:=(Z 5).1;have a6:=(Z 6).1;have a7:=(Z 7).1;omega
 unfold St.zw;omega
theorem WF.sharp (h:WF N L n D) (hi:TI D) (tl:BP D) (h1:D.aP.length<=ae) (h2:D.cuts<=ae) (hG:2000<=ae):WF N L ae D:=by
 have hsh:=h.sh;have hN:=hsh.n1;have hwn:D.iA<=ae:=by
  cases e:D.listed with
  |true=>have:=hsh.bK.sm e;omega
  |false=>have:=(hsh.bK.w0 e).1;omega
 refine⟨⟨hsh.sl,hsh.lm,hsh.n1,hsh.l1,hsh.nw,hsh.nt,hsh.nv,hsh.t8,hsh.c8,hsh.md,hsh.wd,hsh.bK,hwn,h1,hsh.tp⟩,⟨h.sx.so,h.sx.lo,h.sx.cu,h.sx.cn,h2⟩,fun s t ht=>?_,h.ti,h.cx⟩;have hT:=h.tx s t ht;have htl:=tl s t ht;have fw:TL t (fun _=>0):=by
  split at htl
  . exact htl.mono (fun _=>zz _)
  . exact htl
 have V:=fw.Df;have Z:=hi.aJ hsh.md ht;have hmd:=hsh.md;have hr:t.reads.length<=768:=by
  rw[Fx t.reads hT.rd];have:=Ei (f:=fun k=>t.reads.countP (fun r=>r.1==k)) (g:=fun _=>12) 64 (fun i _=>by have:=fw.mul i;have:=hT.op;show cnt t i<=12;omega);rw[nD] at this;omega
 exact⟨hT.i1,hT.i2,hT.op,hT.bg,hT.en,hT.ce,hT.ky,by omega,hT.rd,by omega,hT.bd,by omega⟩
end
section
variable {N L n s q cq d kd ae M:Nat} {D τ υ aH az dL:St} {t t0 t2 u u2:bB} {c c2:dF} {r:ic} {k:K} {ok:Option K} {o:En.Op} {C:Nat->List Nat} {O:Nat->Nat}
theorem KG (k:Nat):∀ (E:Nat) (τ:St) (c:dF),Mid N L n s d D τ t c->TL t (fun k=>if E<=k then 1 else 0)->∃ t' c',Mid N L n s d D (fA s k τ E).1 t' c'∧TL t' (fun q=>pend q (fA s k τ E).2):=by
 induction k with
 |zero=>
  intro E τ c m tl;exact⟨t,c,m,tl.mono (fun _=>zz _)⟩
 |succ k ih=>
  intro E τ c m tl;unfold fA;rw[m.ec,m.et]
  split
  . exact⟨t,c,m,tl.mono (fun _=>zz _)⟩
  . have yU:TL t (fun k=>if E+1<=k then 1 else 0):=tl.mono (fun k=>by split<;>split<;>omega)
    split
    . rename_i x hx
      cases hth:x.there with
      |true=>
       simp only[if_true];exact ih (E+1) _ _ (m.tell E (τ.valueOf x.own)) yU
      |false=>
       simp only[Bool.false_eq_true,if_false];exact ih (E+1) _ c m yU
    . exact⟨t,c,m,tl⟩
theorem KH (m:Mid N L n s d D τ t c) (tl:TL t (fun _=>0)) (x:Bool) (F head:Nat):∃ t' c',Mid N L n s d D (τ.slot s x F head).1 t' c'∧TL t' (fun q=>pend q (τ.slot s x F head).2):=by
 obtain⟨t',c',h1,_,_,h4⟩:=rQ τ m tl x F head;exact⟨t',c',h1,h4⟩
theorem Iq (m:Mid N L n s d D τ t c) (tl:TL t (fun _=>if iB c.op then 0 else 1)):∃ t' c',Mid N L n s d D (τ.first s).1 t' c'∧TL t' (fun q=>pend q (τ.first s).2):=by
 have et:=m.et;have ec:=m.ec;have fw:TL t (fun _=>0):=tl.mono (fun _=>zz _);unfold St.first;simp only;rw[et,ec];have hE:∀ kk,c.op.kind=kk->(kk≠6∧kk≠7)->TL t (fun _=>1):=by
  intro kk e V;have:iB c.op=false:=by unfold iB;rw[e];simp;omega
  rw[this] at tl
  simpa using tl
 split
 . rename_i e
   have t1:=hE 1 e (by omega)
   split
   . refine⟨t,c,m,?_⟩
     split<;>exact fw
   . exact⟨t,c,m,t1.mono (fun q=>by show (if q=_ then 1 else 0)<=1;split<;>omega)⟩
 . rename_i e
   have t1:=hE 5 e (by omega);unfold St.scan;exact KG _ _ _ c m (t1.mono (fun q=>by split<;>omega))
 . exact⟨t,c,m,fw⟩
 . exact⟨t,c,m,fw⟩
 . rename_i e1 e5 e6 e7
   have t1:=hE c.op.kind rfl ⟨e6,e7⟩
   split
   . split
     . exact⟨t,c,m,fw⟩
     split
     . exact⟨t,c,m,fw⟩
     split
     . exact KH m fw true 0 0
     . exact⟨t,c,m,fw⟩
   . exact⟨t,c,m,t1.mono (fun q=>by show (if q=_ then 1 else 0)<=1;split<;>omega)⟩
theorem BP.nN (h:BP D) (p:MZ N L n s D aH o t k dL t2 c2):BP aH:=by
 have hk0:D.ig s=none:=by unfold St.ig;rw[p.ca];rfl
 have tl:=h s t p.tx;rw[hk0] at tl;have yU:TL (gX o t) (fun _=>if iB (fJ o (D.seq+1)).op then 0 else 1):=by
  show TL (gX o t) (fun _=>if iB o then 0 else 1);unfold gX
  split
  . exact tl
  . exact⟨fun E=>by have:=tl.mul E;show cnt t E+1<=t.ops+1;omega,tl.kd,tl.kl⟩
 obtain⟨t',c',m',h4⟩:=Iq p.m yU;rw[p.run] at m' h4;have e:t2=t':=zj (p.m2.tx.symm.trans m'.tx);subst e;have hk1:aH.ig s=some k:=by unfold St.ig;rw[p.cc];rfl
 intro q u hu
 by_cases e:q=s
 . subst e
   rw[p.tt] at hu;obtain rfl:=zj hu;rw[hk1];exact h4
 . rw[p.ox q e] at hu
   have:aH.ig q=D.ig q:=by unfold St.ig;rw[p.oc q e]
   rw[this];exact h q u hu
theorem BP.aG (h:BP D) {ak:Nat} (hn:∀ q,q≠s->aH.ag.getD q none=D.ag.getD q none) (hc:aH.calls=D.calls) (ht:aH.ag.getD s none=some (eT d ak cq)) (hs:D.calls.getD s none=none):BP aH:=by
 intro q u hu;have hko:aH.ig q=D.ig q:=by unfold St.ig;rw[hc]
 rw[hko]
 by_cases e:q=s
 . subst e
   rw[ht] at hu;obtain rfl:=zj hu;have:D.ig q=none:=by unfold St.ig;rw[hs];rfl
   rw[this];exact⟨fun E=>zz _,List.nodup_nil,fun k V=>by cases V⟩
 . rw[hn q e] at hu;exact h q u hu
theorem BP.new (N L:Nat):BP (En.new N L):=fun q u hu=>by rw[Bw] at hu;cases hu
structure LI (N L n:Nat) (D:St):Prop where
 wf:WF N L n D
 wc:WC N D
 ti:TI D
 tt:TT D
 tl:BP D
theorem LI.mono {n':Nat} (h:LI N L n D) (hn:n<=n'):LI N L n' D:=⟨h.wf.mono hn,h.wc,h.ti,h.tt,h.tl⟩
theorem LI.sharp (h:LI N L n D) (h1:D.aP.length<=ae) (h2:D.cuts<=ae) (hG:2000<=ae):LI N L ae D:=⟨h.wf.sharp h.ti h.tl h1 h2 hG,h.wc,h.ti,h.tt,h.tl⟩
theorem LI.step (h:LI N L n D) (hs:s<8) (hst:ja D s=some (aH,kd,r)) (hw:WF N L (n+3) aH):LI N L (n+3) aH:=by
 obtain⟨t,c,k,az,ok,t2,c2,p⟩:=h.wf.parts hs hst;exact⟨hw,h.wc.step h.wf hs hst,(h.ti.Eg h.wf p).1,h.tt.step h.ti h.wf p,(Bz h.ti h.wf h.wc h.tl hs p).2.2⟩
theorem LI.nN (h:LI N L n D) (hs:s<8) (hst:gV D s o=some aH) (hw:WF N L n aH):LI N L n aH:=by
 obtain⟨t,k,dL,t2,c2,p⟩:=h.wf.Da hs hst;exact⟨hw,h.wc.nN h.wf hs hst,(h.ti.nN h.wf p).1,h.tt.nN h.ti h.wf hs hst,h.tl.nN p⟩
theorem LI.aG (h:LI N L n D) (hs:s<8) {ak id:Nat} (Z:gG D s ak=some (aH,id)) (hw:WF N L (n+1) aH) (hn:∀ q,q≠s->aH.ag.getD q none=D.ag.getD q none) (hc:aH.calls=D.calls) (ht:aH.ag.getD s none=some (eT d ak cq)) (hcs:D.calls.getD s none=none):LI N L (n+1) aH:=
 ⟨hw,h.wc.aG h.wf hs Z,(h.ti.aG h.tt h.wf hs Z).1,(h.ti.aG h.tt h.wf hs Z).2,h.tl.aG hn hc ht hcs⟩
theorem LI.new {N L:Nat} (h1:N<=256) (h2:L<=1099511627776):LI N L 0 (En.new N L):=⟨WF.new h1 h2,WC.new N L,(TI.new N L).1,(TI.new N L).2,BP.new N L⟩
/- Turns. -/
def fe:En.Op:=⟨6,0,0,0⟩
def NM (t:bB):K->Nat
 |.turns l _=>l.length+1
 |.bO|.abort _ _=>200
 |.wait i=>201+(t.aJ.length - i)
 |_=>0
def _root_.Go.Proofs.YthicolbbmjfkfaaGreat.En.St.lm (D:St) (s:Nat):Nat:=match D.ig s with|some k=>NM (D.t s) k|none=>0
def Ir (D:St) (t:bB):K->Prop
 |.turns _ _|.bO|.abort _ _=>True
 |.wait i=>il D (t.aJ.getD i 0)
 |_=>False
def prog (D:St) (s:Nat):Prop:=match D.ig s with|some k=>Ir D (D.t s) k|none=>False
def gone (D:St) (s:Nat):Prop:=D.ag.getD s none=none
structure Turned (N s:Nat) (D τ:St):Prop where
 ph:∀ q,τ.zw N q<=D.zw N q
 me:gone τ s∨τ.late s=true∨τ.zw N s+1<=D.zw N s
 gn:∀ q,gone D q->gone τ q
 lt:∀ q,D.late q=true->gone τ q∨τ.late q=true
 lm:∀ q,q≠s->τ.lm q=D.lm q
 ls:D.late s=true->τ.lm s<=D.lm s∧(prog D s->τ.lm s+1<=D.lm s)
 pr:∀ q,q≠s->prog D q->prog τ q
 md:τ.aA=D.aA
 no:gone D s->τ=D
theorem KI (hq:τ.ig q=D.ig q) (ht:τ.ag.getD q none=D.ag.getD q none):τ.lm q=D.lm q:=by
 unfold St.lm St.t;rw[hq,ht]
theorem BF (V:D.ig s=some k) (ht:D.ag.getD s none=some t):D.lm s=NM t k:=by
 have et:D.t s=t:=by unfold St.t;rw[ht];rfl
 unfold St.lm;rw[V,et]
theorem Ej (V:D.ig s=some k) (ht:D.ag.getD s none=some t):prog D s↔Ir D t k:=by
 have et:D.t s=t:=by unfold St.t;rw[ht];rfl
 unfold prog;rw[V,et]
theorem WF.Na (h:WF N L n D) (ht:D.ag.getD s none=none):D.calls.getD s none=none:=by
 cases e:D.calls.getD s none with
 |none=>rfl
 |some c'=>obtain⟨t',ht',_⟩:=h.cx s c' e;rw[ht] at ht';cases ht'
theorem Fy (hst:∀ b,il D b->il τ b) (V:τ.ig q=D.ig q) (ht:τ.ag.getD q none=D.ag.getD q none) (h:prog D q):prog τ q:=by
 unfold prog at h ⊢;rw[V];have:τ.t q=D.t q:=by unfold St.t;rw[ht]
 rw[this]
 cases e:D.ig q with
 |none=>rw[e] at h;exact h
 |some k=>
  rw[e] at h;simp only at h ⊢
  cases k<;>first|exact h|exact hst _ h
theorem BG (h:LI N L n D) (hs:s<8) (p:Stp N L n s D aH kd r t c k az ok t2 c2):Turned N s D aH:=by
 obtain⟨a1,a2,a3⟩:=Bz h.ti h.wf h.wc h.tl hs p;have hko:∀ q,q≠s->aH.ig q=D.ig q:=fun q hq=>by unfold St.ig;rw[p.oc q hq]
 have hst:∀ b,il D b->il aH b:=by
  intro b Z;have hpl':aH.place b=D.place b:=by unfold St.place;rw[p.aC]
  obtain⟨_,_⟩:=h.ti.Eg h.wf p;unfold il at Z ⊢;rw[hpl']
  cases e:wr (D.aF s {c with waits:=false}) s k with
  |none=>rw[p.p8 e];exact Z
  |some jv=>
   obtain⟨j,v⟩:=jv
   by_cases hj:D.place b=j
   . have hlen:D.place b<D.words.length∨¬ D.place b<D.words.length:=Classical.em _
     have hov:=(p.iV e 0).2;have h1:=h.wf.sh.place b;have hA:Ky k=false:=by
      cases hA:Ky k with
      |false=>rfl
      |true=>
       have:=MX p.xI hA p.m.et p.m.ec e (Bu p.m.op);omega
     have h1':D.place b=73+N*3+b:=h1
     rcases hlen with hlen|hlen
     . rw[hj] at hlen
       have hv:=hov hlen;rw[hj,hv];rw[hj] at Z;have hpw:=h.ti.wd s t p.tx;rw[p.vS] at hpw
       cases k with
       |dJ w now=>
        simp only[wr] at e
        split at e
        . rename_i hf
          obtain⟨rfl,rfl⟩:=gZ _ _ _ _ ▸ zj e;have hf':D.word (D.place (aT w))=pack 1 0:=hf;have hb':bA (D.word (D.place (aT w)))=3∨bA (D.word (D.place (aT w)))=4:=Z;rw[hf',dU (by omega)] at hb';omega
        . cases e
       |turn w now=>
        simp only[wr] at e
        split at e
        . obtain⟨rfl,rfl⟩:=gZ _ _ _ _ ▸ zj e
          omega
        . cases e
       |dD=>
        simp only[wr] at e
        split at e
        . rename_i hf
          obtain⟨rfl,rfl⟩:=gZ _ _ _ _ ▸ zj e;have hb':bA ((D.aF s {c with waits:=false}).word ((D.aF s {c with waits:=false}).place (aT (aO ((D.aF s {c with waits:=false}).t s).ax ((D.aF s {c with waits:=false}).t s).id))))=3∨bA ((D.aF s {c with waits:=false}).word ((D.aF s {c with waits:=false}).place (aT (aO ((D.aF s {c with waits:=false}).t s).ax ((D.aF s {c with waits:=false}).t s).id))))=4:=Z;rw[hf,dU (by omega)] at hb';omega
        . cases e
       |bO=>
        obtain⟨rfl,rfl⟩:=gZ _ _ _ _ ▸ zj e;rw[dU (by omega)];exact .inl rfl
       |abort x y=>
        obtain⟨rfl,rfl⟩:=gZ _ _ _ _ ▸ zj e;rw[dU (by omega)];exact .inr rfl
       |turns l r=>
        have TK:=p.m.s8
        cases l with
        |nil=>
         obtain⟨rfl,rfl⟩:=gZ _ _ _ _ ▸ zj e;omega
        |cons x l=>
         have:=(p.xI.2.2 x lJ).2;simp only[wr] at e
         split at e
         . obtain⟨rfl,rfl⟩:=gZ _ _ _ _ ▸ zj e
           omega
         . cases e
       |_=>cases hA
     . have:aH.word (D.place b)=D.word (D.place b):=by
        have h1:aH.word (D.place b)=0:=by
         unfold St.word;rw[mM,FC (by rw[show aH.words=az.words by (obtain⟨l,cs,ts,TM,e⟩:=p.e1;rw[e]),p.runs.1,e];show (D.words.set j v).length<=_;rw[pz];omega)];rfl
        have h2:D.word (D.place b)=0:=by
         unfold St.word;rw[mM,FC (by omega)];rfl
        rw[h1,h2]
       rw[this];exact Z
   . rw[(p.iV e _).1 hj];exact Z
 have hgo:∀ k',ok=some k'->aH.ag.getD s none=some t2:=fun k' e=>(p.go k' e).2.2.2.1
 have Iu:D.late s=late k:=(kE (N:=N) p.tx p.ca p.ck).2.2;refine⟨fun q=>?_,?_,fun q hq=>?_,fun q hq=>?_,fun q hq=>KI (hko q hq) (p.ox q hq),fun hl=>?_,fun q hq hp=>Fy hst (hko q hq) (p.ox q hq) hp,p.aA,fun hg=>by unfold gone at hg;rw[p.tx] at hg;cases hg⟩
 . by_cases e:q=s
   . subst e
     split at a2
     . exact a2.1
     . omega
   . exact a1 q e
 . split at a2
   . exact a2.2.elim .inl (fun x=>.inr (.inl x))
   . exact .inr (.inr a2)
 . by_cases e:q=s
   . subst e;unfold gone at hq;rw[p.tx] at hq;cases hq
   . unfold gone at hq ⊢;rw[p.ox q e];exact hq
 . by_cases e:q=s
   . subst e
     rw[Iu] at hq;rw[aV hq] at a2;exact a2.2
   . refine .inr ?_
     unfold St.late at hq ⊢;rw[p.oc q e];exact hq
 . rw[Iu] at hl
   rw[BF p.vS p.tx,Ej p.vS p.tx];have hzero:ok=none->aH.lm s=0:=fun e=>by
    unfold St.lm;rw[p.Fp e]
   cases k with
   |wait i=>
    have hi:i<t.aJ.length:=p.xI
    cases ok with
    |none=>
     rw[hzero rfl];have hL:NM t (.wait i)=201+(t.aJ.length - i):=rfl;omega
    |some k'=>
     have ht2:t2=t:=by
      apply p.tt;have e1:=p.run;simp only[St.run] at e1
      split at e1
      . obtain⟨e1,_⟩:=gZ _ _ _ _ ▸ e1
        rw[<-e1];exact p.tx
      . split at e1
        . obtain⟨e1,_⟩:=gZ _ _ _ _ ▸ e1
          rw[<-e1];exact p.tx
        . obtain⟨e1,_⟩:=gZ _ _ _ _ ▸ e1
          rw[<-e1];exact p.tx
     subst ht2;rw[BF (p.jG rfl) (hgo _ rfl)];have hL:NM t2 (.wait i)=201+(t2.aJ.length - i):=rfl;have e1:=p.run;simp only[St.run,p.m.et] at e1;have U9:Ir D t2 (.wait i)=il D (t2.aJ.getD i 0):=rfl;rw[hL,U9]
     split at e1
     . obtain⟨_,e2⟩:=gZ _ _ _ _ ▸ e1
       obtain rfl:=zj e2;have hm:((D.aF s {c with waits:=false}).tick.t s)=t2:=p.m.tick.et;have e3:NM t2 (iK ((D.aF s {c with waits:=false}).tick.t s) (i+1))<=201+(t2.aJ.length - (i+1)):=by
        rw[hm];unfold iK
        split
        . show 200<=_;omega
        . exact zr _
       omega
     . rename_i h3
       split at e1
       . obtain⟨_,e2⟩:=gZ _ _ _ _ ▸ e1
         obtain rfl:=zj e2;have e3:NM t2 (.abort 14 4)=200:=rfl;omega
       . rename_i h4
         obtain⟨_,e2⟩:=gZ _ _ _ _ ▸ e1;obtain rfl:=zj e2;refine⟨zr _,fun hp=>?_⟩
         rcases hp with hp|hp
         . exact absurd hp h3
         . exact absurd hp h4
   |bO=>
    obtain⟨_,rfl,_,e4⟩:=h.ti.l9 h.wf p;have htl:=h.tl s t p.tx;rw[p.vS] at htl;have:=vL D (htl.mono (p':=fun _=>0) (fun _=>zz _));rw[BF (p.jG e4) (hgo _ e4)];show (dY D t).length+1<=200∧(True->(dY D t).length+1+1<=200);exact⟨by omega,fun _=>by omega⟩
   |abort e rs=>
    obtain⟨_,rfl,_,e4⟩:=h.ti.nA h.wf p;have htl:=h.tl s t p.tx;rw[p.vS] at htl;have:=xQ D (htl.mono (p':=fun _=>0) (fun _=>zz _));rw[BF (p.jG e4) (hgo _ e4)];show (eU D t).length+1<=200∧(True->(eU D t).length+1+1<=200);exact⟨by omega,fun _=>by omega⟩
   |turns l r0=>
    obtain⟨_,rfl,_,e4,e5⟩:=h.ti.nC h.wf p
    cases l with
    |nil=>
     rw[hzero (e5 rfl).1];show 0<=1∧(True->0+1<=1);exact⟨by omega,fun _=>by omega⟩
    |cons x l=>
     rw[BF (p.jG (e4 x l rfl)) (hgo _ (e4 x l rfl))];show l.length+1<=l.length+1+1∧(True->l.length+1+1<=l.length+1+1);exact⟨by omega,fun _=>by omega⟩
   |_=>cases hl
end
structure EI (N L ae M:Nat) (D:St):Prop where
 li:LI N L ae D
 ct:D.count<=M
 lk:D.aL<=M
 sq:D.seq<=M
 ga:D.IP<=ae
 cu:D.cuts<=ae
section
variable {N L n s q cq d kd ae M:Nat} {D τ υ aH az dL:St} {t t0 t2 u u2:bB} {c c2:dF} {r:ic} {k:K} {ok:Option K} {o:En.Op} {C:Nat->List Nat} {O:Nat->Nat}
theorem Stp.cuts (p:Stp N L n s D aH kd r t c k az ok t2 c2):aH.cuts=D.cuts:=by
 obtain⟨l,cs,ts,tl,e⟩:=p.e1;obtain⟨d,m2⟩:=p.m2;rw[e];exact m2.sp.2.2.2
theorem Iw:D.live.length=0↔∀ s,s<8->gone D s:=by
 unfold St.live gone;rw[List.length_eq_zero_iff,List.filter_eq_nil_iff];constructor
 . intro h s hs
   have:=h s (List.mem_range.2 hs)
   simpa using this
 . intro h s hs
   rw[h s (List.mem_range.1 hs)];simp
theorem Lp (h:LI N L n D) (s:Nat):D.lm s<=2201:=by
 unfold St.lm
 cases V:D.ig s with
 |none=>exact zz _
 |some k=>
  simp only
  cases ht:D.ag.getD s none with
  |none=>
   have hc:=h.wf.Na ht;unfold St.ig at V;rw[hc] at V;cases V
  |some t=>
   have et:D.t s=t:=by unfold St.t;rw[ht];rfl
   rw[et];have Z:=h.ti.aJ h.wf.sh.md ht;have hmd:=h.wf.sh.md;have htl:=h.tl s t ht;rw[V] at htl;have hop:=(h.wf.tx s t ht).op
   cases k with
   |turns l r=>
    have h1:=htl.mul 0;simp only[pend] at h1;show l.length+1<=_
    split at h1<;>omega
   |wait i=>show 201+(t.aJ.length - i)<=_;omega
   |bO=>show 200<=_;omega
   |abort e r=>show 200<=_;omega
   |_=>exact zz _
end
section
variable {N L n s q cq d kd ae M zo m i:Nat} {D τ bE aH az:St} {t t2:bB} {c c2:dF} {r:ic} {k:K} {ok:Option K}
end
end Go.Proofs.YthicolbbmjfkfaaGreat.Em.Cw
