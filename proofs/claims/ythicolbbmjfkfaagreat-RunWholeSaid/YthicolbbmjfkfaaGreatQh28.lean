import Derived.Test.YthicolbbmjfkfaaGreatQh26
import Derived.Test.YthicolbbmjfkfaaGreatQh27
import Derived.Deep.CutRange
import Derived.Deep.RegionWith
set_option linter.unusedVariables false
set_option linter.unusedSimpArgs false
set_option maxRecDepth 100000
set_option maxHeartbeats 1600000
namespace Go.Proofs.YthicolbbmjfkfaaGreat.Em.Cw
open En
/- A call waits only behind a wait's step. -/
def Wq (s:Nat) (b:Bool) (m:Nat) (D:St):Prop:=(∃ c,D.calls.getD s none=some c∧c.waits=b)∧∃ t,D.ag.getD s none=some t∧t.ops=m
section
variable {s m:Nat} {b:Bool} {D τ:St}
def qU (D τ:St):Prop:=τ.calls=D.calls∧τ.ag=D.ag
theorem Wq.of (h:Wq s b m D) (e:qU D τ):Wq s b m τ:=by
 unfold Wq;rw[e.1,e.2];exact h
theorem vO {α:Type} {l:List (Option α)} {x y:α} (h:l.getD s none=some x):(l.set s (some y)).getD s none=some y:=by
 have hl:s<l.length:=by
  by_cases hl:s<l.length
  . exact hl
  . rw[mM,FC (by omega)] at h;cases h
 rw[mM,List.getElem?_set_self hl];rfl
theorem Wq.aF (h:Wq s b m D) {c:dF} (e:c.waits=(D.c s).waits):Wq s b m (D.aF s c):=by
 obtain⟨⟨c0,h1,h2⟩,h3⟩:=h;exact⟨⟨c,vO h1,by rw[e];unfold St.c;rw[h1];exact h2⟩,h3⟩
theorem Wq.bq (h:Wq s b m D) {t:bB} (e:t.ops=(D.t s).ops):Wq s b m (D.bq s t):=by
 obtain⟨h3,⟨t0,h1,h2⟩⟩:=h;exact⟨h3,⟨t,vO h1,by rw[e];unfold St.t;rw[h1];exact h2⟩⟩
theorem mH (i o n:Nat):qU D (D.bP i o n):=by
 unfold St.bP;split<;>exact⟨rfl,rfl⟩
theorem mZ (w:Nat):qU D (D.bT w):=mH _ _ _
theorem Wq.bind (h:Wq s b m D) (tq:Nat):Wq s b m (D.bind s tq):=by
 unfold St.bind
 split
 . exact h
 . exact (h.bq (t:={D.t s with aJ:=(D.t s).aJ++[tq]}) rfl).of ⟨rfl,rfl⟩
theorem sH:qU D D.list:=by
 unfold St.list;split<;>exact⟨rfl,rfl⟩
theorem Dj:qU D D.take.1:=by
 unfold St.take;dsimp only
 split<;>exact⟨(sH (D:=D)).1,(sH (D:=D)).2⟩
theorem Dk (l:Nat):qU D (D.give l):=by
 unfold St.give;dsimp only
 split
 . split<;>exact⟨rfl,rfl⟩
 . exact⟨rfl,rfl⟩
theorem Wq.bW (h:Wq s b m D) (e:Ev):Wq s b m (D.bW s e):=by
 unfold St.bW
 split
 . exact h
 . exact (h.bq (t:={D.t s with over:=true}) rfl).of ⟨rfl,rfl⟩
theorem qd (x:Bool) (l hd:Nat):qU D (D.slot s x l hd).1:=by
 unfold St.slot
 by_cases h0:l=0
 . rw[aV h0]
   have:=Dj (D:=D)
   rcases e:D.take with ⟨τ,_|l'⟩<;>rw[e] at this<;>exact this
 . rw[aX h0];exact⟨rfl,rfl⟩
theorem sI (l hd a:Nat):qU D (D.gT s l hd a).1:=by
 unfold St.gT
 split
 . exact qd _ _ _
 . exact⟨rfl,rfl⟩
theorem vP (l:Nat):qU D (D.lost l).1:=by
 unfold St.lost;dsimp only
 split
 . exact Dk _
 . exact⟨rfl,rfl⟩
theorem Wq.read (h:Wq s b m D) (k l:Nat) (g:Bool):Wq s b m (D.read s k l g):=h.bq rfl
theorem Wq.bF (h:Wq s b m D) (k:Nat) (x:jr):Wq s b m (D.bF s k x):=h.bq rfl
theorem Wq.ed (h:Wq s b m D) (k:Nat) (x:jr):Wq s b m (D.ed s k x):=h.bq rfl
theorem Wq.tell (h:Wq s b m D) (k n:Nat):Wq s b m (D.tell s k n):=h.aF rfl
theorem Wq.finish (h:Wq s b m D) (r:ic):Wq s b m (D.finish s r):=h.aF rfl
theorem Wq.fA:∀ (n:Nat) (D:St) (k:Nat),Wq s b m D->Wq s b m (En.fA s n D k).1:=by
 intro n
 induction n with
 |zero=>intro D k h;exact h
 |succ n ih=>
  intro D k h;unfold En.fA
  split
  . exact h
  . split
    . refine ih _ _ ?_
      split
      . exact h.tell _ _
      . exact h
    . exact h
theorem Wq.scan (h:Wq s b m D) (k:Nat):Wq s b m (D.scan s k).1:=Wq.fA _ _ _ h
theorem Wq.thn (h:Wq s b m D) (hu:dw) (l:Nat):Wq s b m (D.thn s hu l).1:=by
 unfold St.thn
 split
 . dsimp only
   split<;>exact h.read _ _ _
 . dsimp only
   refine Wq.scan ?_ _
   split
   . exact h.read _ _ _
   . exact (h.read _ _ _).tell _ _
 . dsimp only
   split
   . exact h.read _ _ _
   . split
     . exact h.read _ _ _
     . split<;>exact h
 . split<;>exact h
theorem Wq.visit (h:Wq s b m D) (hu:dw) (l:Nat):Wq s b m (D.visit s hu l).1:=by
 unfold St.visit
 split
 . exact h.thn _ _
 . exact h
theorem Wq.seen (h:Wq s b m D) (hu:dw) (l y:Nat):Wq s b m (D.seen s hu l y).1:=by
 unfold St.seen
 split
 . exact h.thn _ _
 . exact h
theorem Wq.run (h:Wq s b m D) {k:K} (V:∀ i,k≠.wait i):Wq s b m (D.run s k).1:=by
 have ht:Wq s b m D.tick:=h.of ⟨rfl,rfl⟩;have hp:∀ i v,Wq s b m (D.put i v):=fun i v=>h.of ⟨rfl,rfl⟩
 have hc:∀ i o v,Wq s b m (D.bP i o v):=fun i o v=>h.of (mH _ _ _)
 cases k with
 |wait i=>exact absurd rfl (V i)
 |fin r=>exact h.finish r
 |start hu=>exact ht.visit _ _
 |visit hu l=>exact ht
 |older hu l=>exact ht.visit _ _
 |maker hu l i=>
  unfold St.run;dsimp only
  split
  . exact ht
  . split<;>exact ht
 |ended hu l y=>
  unfold St.run;dsimp only
  split
  . exact ht
  . split
    . exact ht.seen _ _ _
    . exact ht
 |eY hu l y i=>
  unfold St.run;dsimp only
  split
  . exact ht.seen _ _ _
  . split
    . exact ht.bind _
    . exact ht
 |seen hu l y=>
  unfold St.run;dsimp only
  split
  . exact ht
  . refine Wq.thn ?_ _ _
    split
    . exact ht.bind _
    . exact ht
 |again e=>
  unfold St.run;dsimp only
  split
  . exact ((hp _ _).ed _ _).of ⟨rfl,rfl⟩
  . exact (hp _ _).ed _ _
 |own l=>
  unfold St.run;dsimp only
  split
  . exact ht
  . split<;>exact ht
 |fG l w i=>
  unfold St.run;dsimp only
  split<;>exact ht
 |claim l w=>
  unfold St.run;dsimp only
  split
  . exact hc _ _ _
  . split
    . exact (hc _ _ _).bF _ _
    . exact ((hc _ _ _).bF _ _).of (qd _ _ _)
 |fresh l=>exact ht.of (sI _ _ _)
 |next l hd a=>exact ht.of (sI _ _ _)
 |free l hd a=>
  unfold St.run;dsimp only
  split
  . exact ht
  . split
    . exact ht.of (vP _)
    . exact ht
 |dB l hd a i=>
  unfold St.run;dsimp only
  split
  . exact ht
  . exact ht.of (vP _)
 |dX x l hd=>exact hp _ _
 |dM x l hd=>exact hp _ _
 |push l hd=>exact hp _ _
 |dC l hd=>
  unfold St.run;dsimp only
  split
  . exact hc _ _ _
  . exact (hc _ _ _).bF _ _
 |over l=>exact ht
 |fU l hd=>exact hp _ _
 |dI l hd=>
  unfold St.run;dsimp only
  split
  . exact hc _ _ _
  . exact (hc _ _ _).ed _ _
 |draw=>
  unfold St.run;dsimp only
  split
  . exact ht
  . split<;>exact ht
 |dJ w n=>exact h.of (mZ _)
 |turn w n=>
  unfold St.run;dsimp only
  split
  . exact hc _ _ _
  . exact Wq.of ((hc 0 w (aO (n+1) (D.t s).id)).bq (t:={(D.bP 0 w (aO (n+1) (D.t s).id)).t s with ax:=n+1}) rfl) ⟨rfl,rfl⟩
 |dD=>exact h.of (mZ _)
 |turns l r=>
  cases l with
  |nil=>exact (hp (1+s) 0).finish r
  |cons x l=>
   unfold St.run;dsimp only
   split
   . exact hp _ _
   . exact hc _ _ _
 |bO=>exact (hp _ _).bW _
 |abort e r=>exact (hp _ _).bW _
end
section
variable {N L n s m ae M:Nat} {b:Bool} {D τ aH az dL:St} {t t2:bB} {c c2:dF} {k:K} {ok:Option K} {kd:Nat} {r:ic} {o:En.Op}
theorem Wq.first (h:Wq s b m D):Wq s b m (D.first s).1:=by
 unfold St.first;dsimp only
 split
 . split<;>exact h
 . exact h.scan _
 . exact h
 . exact h
 . split
   . split
     . exact h
     . split
       . exact h
       . split
         . exact h.of (qd _ _ _)
         . exact h
   . exact h
theorem Stp.ops (p:Stp N L n s D aH kd r t c k az ok t2 c2) (V:∀ i,k≠.wait i):t2.ops=t.ops∧c2.waits=false:=by
 have h0:Wq s false t.ops (D.aF s {c with waits:=false}):=⟨⟨_,p.m.ca,rfl⟩,⟨_,p.m.tx,rfl⟩⟩
 have h1:=h0.run V;rw[p.run] at h1;obtain⟨⟨c',e1,e2⟩,⟨t',e3,e4⟩⟩:=h1;obtain⟨d,m2⟩:=p.m2;rw[m2.ca] at e1;rw[m2.tx] at e3;obtain rfl:=zj e1;obtain rfl:=zj e3;exact⟨e4,e2⟩
theorem MZ.ops (p:MZ N L n s D aH o t k dL t2 c2):t2.ops<=t.ops+1:=by
 have h0:Wq s false (gX o t).ops (bR D s o t):=⟨⟨_,p.m.ca,rfl⟩,⟨_,p.m.tx,rfl⟩⟩
 have h1:=h0.first;rw[p.run] at h1;obtain⟨-,⟨t',e3,e4⟩⟩:=h1;rw[p.m2.tx] at e3;obtain rfl:=zj e3;rw[e4];unfold gX
 split
 . exact nO _
 . exact zr _
theorem LI.Nn (h:LI N L n D) (hm:D.aA=1) (ht:D.ag.getD s none=some t):t.aJ=[]:=by
 rcases e:t.aJ with _|⟨b,bs⟩
 . rfl
 . exfalso
   obtain⟨b1,b2,b3,-⟩:=(h.ti.bo s t ht).2 b (by rw[e];exact lJ);have:=h.ti.ip s t ht;omega
def Jd (h:dw):Prop:=∃ i l,h.thn=.judge i l
def jW:K->Prop
 |.start h|.visit h _|.older h _|.maker h _ _|.ended h _ _|.eY h _ _ _|.seen h _ _=>Jd h
 |.draw|.dJ _ _|.turn _ _|.dD|.wait _|.bO|.abort _ _|.turns _ _=>True
 |_=>False
theorem jW.judge (t:bB) (i:Nat):jW (dm t i):=by
 unfold dm;dsimp only
 split
 . unfold iK
   split<;>trivial
 . exact⟨_,_,rfl⟩
theorem jW.thn {h:dw} (hj:Jd h) (l:Nat):jW (D.thn s h l).2:=by
 obtain⟨i,l',e⟩:=hj;unfold St.thn;rw[e];dsimp only
 split
 . trivial
 . exact jW.judge _ _
theorem jW.visit {h:dw} (hj:Jd h) (l:Nat):jW (D.visit s h l).2:=by
 unfold St.visit
 split
 . exact jW.thn hj _
 . exact hj
theorem jW.seen {h:dw} (hj:Jd h) (l y:Nat):jW (D.seen s h l y).2:=by
 unfold St.seen
 split
 . exact jW.thn hj _
 . exact hj
theorem jW.run (V:jW k):(∃ k',(D.run s k).2=some k'∧jW k')∨∃ r,k=.turns [] r:=by
 cases k with
 |start h=>exact .inl ⟨_,rfl,jW.visit V _⟩
 |visit h l=>
  refine .inl ⟨_,rfl,?_⟩;unfold St.jb
  split
  . exact V
  . split<;>exact V
 |older h l=>exact .inl ⟨_,rfl,jW.visit V _⟩
 |maker h l i=>
  unfold St.run;dsimp only
  split
  . exact .inl ⟨_,rfl,V⟩
  . split<;>exact .inl ⟨_,rfl,V⟩
 |ended h l y=>
  unfold St.run;dsimp only
  split
  . exact .inl ⟨_,rfl,V⟩
  . split
    . exact .inl ⟨_,rfl,jW.seen V _ _⟩
    . exact .inl ⟨_,rfl,V⟩
 |eY h l y i=>
  unfold St.run;dsimp only
  split
  . exact .inl ⟨_,rfl,jW.seen V _ _⟩
  . split<;>exact .inl ⟨_,rfl,V⟩
 |seen h l y=>
  unfold St.run;dsimp only
  split
  . exact .inl ⟨_,rfl,V⟩
  . exact .inl ⟨_,rfl,jW.thn V _⟩
 |draw=>
  unfold St.run;dsimp only
  split
  . exact .inl ⟨_,rfl,trivial⟩
  . split<;>exact .inl ⟨_,rfl,trivial⟩
 |dJ w now=>exact .inl ⟨_,rfl,trivial⟩
 |turn w now=>
  unfold St.run;dsimp only
  split<;>exact .inl ⟨_,rfl,trivial⟩
 |dD=>exact .inl ⟨_,rfl,jW.judge _ _⟩
 |wait i=>
  unfold St.run;dsimp only
  split
  . refine .inl ⟨_,rfl,?_⟩
    unfold iK
    split<;>trivial
  . split<;>exact .inl ⟨_,rfl,trivial⟩
 |bO=>exact .inl ⟨_,rfl,trivial⟩
 |abort e r=>exact .inl ⟨_,rfl,trivial⟩
 |turns l r=>
  cases l with
  |nil=>exact .inr ⟨r,rfl⟩
  |cons x l=>exact .inl ⟨_,rfl,trivial⟩
 |_=>exact V.elim
theorem Stp.ends (p:Stp N L n s D aH kd r t c k az ok t2 c2) (V:jW k):(∃ k',ok=some k'∧jW k')∨(ok=none∧c2.r.over≠0):=by
 rcases V.run (D:=D.aF s {c with waits:=false}) (s:=s) with h|⟨x,rfl⟩
 . rw[p.run] at h;exact .inl h
 . have e:=p.run
   have hov:=p.xI.1;obtain⟨d,m2⟩:=p.m2;have e1:(((D.aF s {c with waits:=false}).put (1+s) 0).finish s x,(none:Option K))=(az,ok):=e;obtain⟨e2,e3⟩:=gZ _ _ _ _ ▸ e1;refine .inr ⟨e3.symm,?_⟩;have hr:c2.r=x:=by
    have h1:=m2.ec;rw[<-h1,<-e2];show ((((D.aF s {c with waits:=false}).calls.set s (some {((D.aF s {c with waits:=false}).put (1+s) 0).c s with r:=x,over:=true})).getD s none).getD default).r=x;rw[vO p.m.ca];rfl
   rw[hr];omega
def _root_.Go.Proofs.YthicolbbmjfkfaaGreat.En.St.mu (D:St) (N s:Nat):Nat:=if D.late s=true then D.lm s else D.zw N s+2202
theorem EI.lone (h:EI N L ae M D) (hG:2000<=ae) (TW:ae<900000) (hM:M<1000000000000) (hs:s<8) (hm:D.aA=1) (hc:D.calls.getD s none=some c) (ht:D.ag.getD s none=some t):
 ∃ aH kd r,ja D s=some (aH,kd,r)∧EI N L ae (M+1) aH∧aH.aA=1∧(∀ q,q≠s->aH.ag.getD q none=D.ag.getD q none∧aH.calls.getD q none=D.calls.getD q none)
  ∧ ((kd = 1 ∧ aH.mu N s + 1 <= D.mu N s ∧ ∃ c1 t1, aH.calls.getD s none = some c1 ∧ aH.ag.getD s none = some t1 ∧ t1.ops = t.ops)
    ∨(kd=3∧aH.calls.getD s none=none∧((r.over=0∧∃ t1,aH.ag.getD s none=some t1∧t1.ops=t.ops)∨(r.over≠0∧aH.ag.getD s none=none))))
  ∧(∀ k,c.k=some k->jW k->(kd=1->∃ c1 k1,aH.calls.getD s none=some c1∧c1.k=some k1∧jW k1)∧(kd=3->r.over≠0)):=by
 have hct:=h.ct;have hlk:=h.lk;have vY:=h.sq;obtain⟨aH,kd,r,hst,hwf,hc1,hc2,hl1,hl2,Hr,hmd,-⟩:=h.li.wf.step hs hc (by omega) (by omega) (by omega);obtain⟨t',c',k,az,ok,t2,c2,p⟩:=h.li.wf.parts hs hst;have e1:=p.ca;rw[hc] at e1;obtain rfl:=zj e1;have e2:=p.tx;rw[ht] at e2;obtain rfl:=zj e2;have hg:=Im h.li.ti h.li.wf hs p;have NN:=h.li.step hs hst hwf;have hga:aH.IP<=ae:=eP hg h.ga;have Sr:aH.cuts<=ae:=by rw[p.cuts];exact h.cu
 have T:=BG h.li hs p;have Z:=h.li.Nn hm ht;have TY:∀ i,k≠.wait i:=by
  rintro i rfl;have hi:i<t.aJ.length:=p.xI;rw[Z] at hi;exact Nat.not_lt_zero _ hi
 obtain⟨ho,hw⟩:=p.ops TY;refine⟨aH,kd,r,hst,⟨NN.sharp (by unfold St.IP at hga;omega) Sr hG,by omega,by omega,by omega,hga,Sr⟩,hmd.trans hm,fun q hq=>⟨p.ox q hq,p.oc q hq⟩,?_,fun k0 hk0 hE=>?_⟩;rotate_left
 . rw[p.ck] at hk0
   obtain rfl:=zj hk0
   rcases p.ends hE with ⟨k',e,hE'⟩|⟨e,hv⟩
   . obtain⟨g1,-,g3,-⟩:=p.go k' e
     rw[hw] at g1;exact⟨fun _=>⟨_,k',g3,rfl,hE'⟩,fun e3=>absurd (g1.symm.trans e3) (by decide)⟩
   . obtain⟨g1,g2,-⟩:=p.no e
     exact⟨fun e3=>absurd (g1.symm.trans e3) (by decide),fun _=>by rw[g2];exact hv⟩
 cases ok with
 |none=>
  obtain⟨g1,g2,g3,g4⟩:=p.no rfl;refine .inr ⟨g1,g3,?_⟩
  rcases g4 with ⟨a,b,-⟩|⟨a,b,-⟩
  . exact .inl ⟨by rw[g2];exact a,t2,b,ho⟩
  . exact .inr ⟨by rw[g2];exact a,b⟩
 |some k'=>
  obtain⟨g1,g2,g3,g4,g5⟩:=p.go k' rfl;rw[hw] at g1;refine .inl ⟨g1,?_,_,t2,g3,g4,ho⟩;have TZ:¬ gone aH s:=by unfold gone;rw[g4];intro e;cases e
  have hll:=Lp NN s;unfold St.mu
  by_cases hl:D.late s=true
  . have hl1:=(T.lt s hl).resolve_left TZ
    rw[aV hl,aV hl1];refine (T.ls hl).2 ?_;rw[Ej p.vS p.tx];have hlk:late k=true:=by rw[<-(kE (N:=N) p.tx p.ca p.ck).2.2];exact hl
    cases k with
    |wait i=>exact absurd rfl (TY i)
    |turns l r=>trivial
    |bO=>trivial
    |abort e r=>trivial
    |_=>cases hlk
  . rw[aX hl]
    split
    . omega
    . rename_i hl1
      have:=(T.me.resolve_left TZ).resolve_left hl1;omega
theorem EI.lC (hG:2000<=ae) (TW:ae<900000) (hs:s<8):∀ (zo:Nat) (D:St) (M:Nat) (c:dF) (t:bB),EI N L ae M D->D.aA=1->D.calls.getD s none=some c->D.ag.getD s none=some t->D.mu N s<zo->M+zo<1000000000000->
 ∃ bE r,Em.lC zo D s=some (bE,r,0)∧EI N L ae (M+zo) bE∧bE.aA=1∧(∀ q,q≠s->bE.ag.getD q none=D.ag.getD q none∧bE.calls.getD q none=D.calls.getD q none)∧bE.calls.getD s none=none
  ∧((r.over=0∧∃ t1,bE.ag.getD s none=some t1∧t1.ops=t.ops)∨(r.over≠0∧bE.ag.getD s none=none))∧(∀ k,c.k=some k->jW k->r.over≠0):=by
 intro zo
 induction zo with
 |zero=>intro D M c t _ _ _ _ h;exact absurd h (Nat.not_lt_zero _)
 |succ zo ih=>
  intro D M c t h hm hc ht hmu hM;obtain⟨aH,kd,r,h1,h2,h3,h4,h5,hE⟩:=h.lone hG TW (by omega) hs hm hc ht;have hup:∀ bE M',EI N L ae M' bE->M'<=M+(zo+1)->EI N L ae (M+(zo+1)) bE:=fun bE M' x hx=>⟨x.li,eP x.ct hx,eP x.lk hx,eP x.sq hx,x.ga,x.cu⟩
  rcases h5 with ⟨rfl,h5,c1,t1,h6,h7,h8⟩|⟨rfl,h5,h6⟩
  . obtain⟨bE,r',g1,g2,g3,g4,g5,g6,g7⟩:=ih aH (M+1) c1 t1 h2 h3 h6 h7 (by omega) (by omega)
    refine⟨bE,r',?_,hup _ _ g2 (by omega),g3,fun q hq=>⟨(g4 q hq).1.trans (h4 q hq).1,(g4 q hq).2.trans (h4 q hq).2⟩,g5,by rw[<-h8];exact g6,fun k V hEk=>?_⟩;rotate_left
    . obtain⟨c1',k1,e1,e2,e3⟩:=(hE k V hEk).1 rfl
      rw[h6] at e1;obtain rfl:=zj e1;exact g7 k1 e2 e3
    unfold Em.lC;rw[h1];exact g1
  . refine⟨aH,r,?_,hup _ _ h2 (by omega),h3,h4,h5,h6,fun k V hEk=>(hE k V hEk).2 rfl⟩
    unfold Em.lC;rw[h1];rfl
end
section
variable {N L n s ae M zo:Nat} {D bE:St} {t:bB} {c0:dF}
def T9 (zo s:Nat):List ic->St->List En.Op->St->Prop
 |[],D,_,bE=>D=bE∧D.ag.getD s none=none
 |r::rs,D,os,bE=>(D.ag.getD s none).isSome=true∧∃ o os' aH az,os=o::os'∧gV D s o=some aH∧lC zo aH s=some (az,r,0)∧T9 zo s rs az os' bE
def Trail (zo s:Nat) (D:St) (os:List En.Op) (rs:List ic) (bE:St):Prop:=T9 zo s rs D os bE
theorem Fz (h:D.calls.getD s none=some c0) (ho:c0.op.kind=6):jW (D.first s).2:=by
 have e:D.c s=c0:=by unfold St.c;rw[h];rfl
 unfold St.first;rw[e];dsimp only;rw[ho]
 trivial
theorem LI.PG (h:LI N L n D) (hs:s<8) (hg:∀ q,q≠s->D.ag.getD q none=none) (hc:D.count<=M) (hl:D.aL<=M) (vY:D.seq<=M):EI N L (n+4004) M D:=by
 have h0:∀ q,q≠s->D.BA q=0:=by
  intro q hq;unfold St.BA;rw[hg q hq]
 have h1:D.BA s<=2004:=by
  unfold St.BA
  split
  . exact zz _
  . rename_i t _
    have:=(p9 t (D.ig s)).2
    split<;>split<;>omega
 have hgm:D.IP<=n+4004:=by
  have:=h.wf.sh.tl;unfold St.IP;have h8:vJ D.BA<=2004:=by
   rcases (by omega:s=0∨s=1∨s=2∨s=3∨s=4∨s=5∨s=6∨s=7) with rfl|rfl|rfl|rfl|rfl|rfl|rfl|rfl<;>
   . unfold vJ
     rw[show ∀ a b c d e f g h:Nat,a+b+c+d+e+f+g+h=a+b+c+d+e+f+g+h from fun _ _ _ _ _ _ _ _=>rfl];have q0:=h0 0;have q1:=h0 1;have q2:=h0 2;have q3:=h0 3;have q4:=h0 4;have q5:=h0 5;have q6:=h0 6;have q7:=h0 7;simp at q0 q1 q2 q3 q4 q5 q6 q7;omega
  omega
 have Sr:=h.wf.sx.cb;have htl:=h.wf.sh.tl;exact⟨h.mono (by omega),hc,hl,vY,by omega,by omega⟩
theorem LI.call (hs:s<8) (hF:20566+174*N<zo) (Su:zo<=13824000) {o:En.Op} (h:LI N L n D) (hn:n<800000) (hct:D.count<=M) (hlk:D.aL<=M) (vY:D.seq<=M) (hM:M+(zo+1)<1000000000000) (hm:D.aA=1) (hg:∀ q,q≠s->D.ag.getD q none=none) (hc:D.calls.getD s none=none) (ht:D.ag.getD s none=some t) (hop:t.ops<12∨iB o=true) (ho:jK o=true):
 ∃ aH az r,gV D s o=some aH∧lC zo aH s=some (az,r,0)∧LI N L (n+4004) az∧az.count<=M+(zo+1)∧az.aL<=M+(zo+1)∧az.seq<=M+(zo+1)∧az.aA=1∧(∀ q,q≠s->az.ag.getD q none=D.ag.getD q none)∧az.calls.getD s none=none
  ∧((r.over=0∧o.kind≠6∧∃ t1,az.ag.getD s none=some t1∧t1.ops<=t.ops+1)∨(r.over≠0∧az.ag.getD s none=none)):=by
 obtain⟨aH,hi,hwf,hc1,hl1,Hr,hmd,⟨c,hc',hco⟩,hlv,hq,-⟩:=h.wf.nN hs ht hc ho hop (by omega) (by omega);obtain⟨t',k,dL,t2,c2,p⟩:=h.wf.Da hs hi;obtain rfl:t'=t:=zj (p.tx.symm.trans ht);have NN:=h.nN hs hi hwf;have PH:EI N L (n+4004) (M+1) aH:=NN.PG hs (fun q hq'=>(hq q hq').1.trans (hg q hq')) (by omega) (by omega) (by omega);have Vp:=M9 PH.li.wf PH.li.wc PH.li.tl s;have hll:=Lp PH.li s;have hmu:aH.mu N s<zo:=by unfold St.mu;split<;>omega
 obtain⟨az,r,e1,e2,e3,e4,e5,e6,e7⟩:=EI.lC (by omega) (by omega) hs zo aH (M+1) _ t2 PH (hmd.trans hm) p.cc p.tt hmu (by omega);have hops:=p.ops;have hmm:M+1+zo=M+(zo+1):=by omega
 rw[hmm] at e2;refine⟨aH,az,r,hi,e1,e2.li,e2.ct,e2.lk,e2.sq,e3,fun q hq'=>(e4 q hq').1.trans (hq q hq').1,e5,?_⟩
 rcases e6 with ⟨hov,t3,ht3,ho3⟩|hx
 . refine .inl ⟨hov,fun h6=>?_,t3,ht3,by omega⟩
   have hEk:jW k:=by
    have h1:=Fz (D:=bR D s o t') (s:=s) p.m.ca h6;rw[p.run] at h1;exact h1
   exact e7 k rfl hEk hov
 . exact .inr hx
theorem LI.trail (hs:s<8) (hF:20566+174*N<zo) (Su:zo<=13824000):∀ (ops:List En.Op) (D:St) (n M:Nat) (t:bB),LI N L n D->n+(ops.length+1)*4004<800000->D.count<=M->D.aL<=M->D.seq<=M->D.aA=1->(∀ q,q≠s->D.ag.getD q none=none)->D.calls.getD s none=none->D.ag.getD s none=some t->t.ops+ops.length<=12->(∀ o∈ops,jK o=true)->M+(ops.length+1)*(zo+1)<1000000000000->
 ∃ bE rs,Trail zo s D (ops++[fe]) rs bE∧rs≠[]∧rs.length<=ops.length+1∧(∀ acc,gy zo D s (ops++[fe]) acc=some (bE,acc++rs,0))∧LI N L (n+(ops.length+1)*4004) bE∧(∀ q,q≠s->bE.ag.getD q none=D.ag.getD q none)∧bE.ag.getD s none=none:=by
 intro ops
 induction ops with
 |nil=>
  intro D n M t h hn hct hlk vY hm hgn hc ht hop hok hM;simp only[List.length_nil,Nat.zero_add,Nat.one_mul] at hM hn;obtain⟨aH,az,r,hi,e1,e2,e3,e4,e5,e6,e7,e8,e9⟩:=h.call hs hF Su (o:=fe) (by omega) hct hlk vY hM hm hgn hc ht (.inr (by decide)) (by decide);obtain⟨hov,hg⟩:=e9.resolve_left (fun x=>x.2.1 rfl);refine⟨az,[r],⟨by rw[ht];rfl,_,_,aH,az,rfl,hi,e1,rfl,hg⟩,by simp,zr _,fun acc=>?_,?_,e7,hg⟩
  . show gy zo D s [fe] acc=_
    unfold gy;rw[hi];simp only[e1];rw[aX (by simp),aV hov]
  . simp only[List.length_nil,Nat.zero_add,Nat.one_mul];exact e2
 |cons o ops ih=>
  intro D n M t h hn hct hlk vY hm hgn hc ht hop hok hM;rw[List.length_cons] at hop hM hn;rw[Nat.succ_mul] at hM hn;have Vq:=hok o lJ;obtain⟨aH,az,r,hi,e1,e2,e3,e4,e5,e6,e7,e8,e9⟩:=h.call hs hF Su (o:=o) (by omega) hct hlk vY (by omega) hm hgn hc ht (.inl (by omega)) Vq
  rcases e9 with ⟨hov,-,t3,ht3,ho3⟩|⟨hov,hg⟩
  . obtain⟨bE,rs,f1,f2,f3,f4,f5,f6,f7⟩:=ih az (n+4004) (M+(zo+1)) t3 e2 (by omega) e3 e4 e5 e6 (fun q hq'=>(e7 q hq').trans (hgn q hq')) e8 ht3 (by omega) (fun o' ho'=>hok o' (pq _ ho')) (by omega)
    refine⟨bE,r::rs,⟨by rw[ht];rfl,_,_,aH,az,rfl,hi,e1,f1⟩,by simp,by simp only[List.length_cons];omega,fun acc=>?_,?_,fun q hq'=>(f6 q hq').trans (e7 q hq'),f7⟩
    . show gy zo D s (o::(ops++[fe])) acc=_
      unfold gy;rw[hi];simp only[e1];rw[aX (by simp),aX (by simp[hov]),f4];simp
    . rw[List.length_cons,Nat.succ_mul (ops.length+1),show n+((ops.length+1)*4004+4004)=n+4004+(ops.length+1)*4004 by omega];exact f5
  . refine⟨az,[r],⟨by rw[ht];rfl,_,_,aH,az,rfl,hi,e1,rfl,hg⟩,by simp,by simp only[List.length_cons,List.length_nil];omega,fun acc=>?_,?_,e7,hg⟩
    . show gy zo D s (o::(ops++[fe])) acc=_
      unfold gy;rw[hi];simp only[e1];rw[aX (by simp),aV hov]
    . rw[List.length_cons,Nat.succ_mul]
      exact e2.mono (by omega)
theorem FB {ak:Nat} (h1:1<=ak) (h3:ak<=3) {ops:List En.Op} (hl:ops.length<=8) (hok:∀ o∈ops,jK o=true):
 ∃ aH bE rs,gG (En.new 60 100) 0 ak=some (aH,1)∧Trail 13824000 0 aH (ops++[fe]) rs bE∧rs≠[]∧rs.length<=ops.length+1∧runWhole 13824000 (En.new 60 100) 0 ak ops=some (bE,rs,0)∧bE.live.length=0∧LI 60 100 40000 bE:=by
 have hN:LI 60 100 0 (En.new 60 100):=LI.new (by omega) (by omega);have htx:∀ q,(En.new 60 100).ag.getD q none=none:=by
  intro q;show (List.replicate 8 (none:Option bB)).getD q none=none;rw[mM,List.getElem?_replicate]
  split<;>rfl
 have hcx:∀ q,(En.new 60 100).calls.getD q none=none:=by
  intro q;show (List.replicate 8 (none:Option dF)).getD q none=none;rw[mM,List.getElem?_replicate]
  split<;>rfl
 have hw0:(En.new 60 100).word 0=0:=by
  show (List.replicate (73+60*3+2000+1) 0).getD 0 0=0;rw[mM,List.getElem?_replicate]
  split<;>rfl
 obtain⟨aH,Z,hwf,hc1,hc2,hlk,vY,hmd,Ua,ht,hq,-⟩:=hN.wf.aG (s:=0) (by omega) (htx 0) h1 h3 (show (0:Nat)<2000 by omega) (by rw[hw0];show ai 0<100;decide) (show (0:Nat)<_ by omega) (by omega);have NN:LI 60 100 (0+1) aH:=hN.aG (by omega) Z hwf hq Ua ht (hcx 0);have e0:(En.new 60 100).aA=0:=rfl;have e1:(En.new 60 100).count=0:=rfl;have e2:(En.new 60 100).aL=0:=rfl;have e3:(En.new 60 100).seq=0:=rfl;obtain⟨bE,rs,f1,f2,f3,f4,f5,f6,f7⟩:=LI.trail (s:=0) (zo:=13824000) (by omega) (by omega) (zr _) ops aH (0+1) 5 _ NN (by omega) (by omega) (by omega) (by omega) (by omega) (fun q hq'=>(hq q hq').trans (htx q)) (by rw[Ua];exact hcx 0) ht (show 0+ops.length<=12 by omega) hok (by omega);refine⟨aH,bE,rs,Z,f1,f2,f3,?_,Iw.2 fun q hq8=>?_,f5.mono (by omega)⟩
 . unfold runWhole
   rw[Z];exact f4 []
 . unfold gone
   by_cases e:q=0
   . subst e;exact f7
   . rw[f6 q e,hq q e];exact htx q
theorem Trail.live {os:List En.Op} {rs:List ic} (h:Trail zo s D os rs bE):(D.ag.getD s none).isSome=true↔rs≠[]:=by
 cases rs with
 |nil=>rw[h.2];simp
 |cons r rs=>exact⟨fun _=>by simp,fun _=>h.1⟩
theorem Trail.cons {os:List En.Op} {rs:List ic} (h:Trail zo s D os rs bE) (hl:(D.ag.getD s none).isSome=true):∃ o os' r rs' aH az,os=o::os'∧rs=r::rs'∧gV D s o=some aH∧lC zo aH s=some (az,r,0)∧Trail zo s az os' rs' bE:=by
 cases rs with
 |nil=>rw[h.2] at hl;cases hl
 |cons r rs=>
  obtain⟨_,o,os',aH,az,e,a,b,c⟩:=h;exact⟨o,os',r,rs,aH,az,e,rfl,a,b,c⟩
end
end Go.Proofs.YthicolbbmjfkfaaGreat.Em.Cw
namespace Go.Proofs.YthicolbbmjfkfaaGreat.Em
open Go.ChangeShapes Go.WideShapes Go.ChangeAt Go.RowKit En
theorem kP {w:World} {b:Nat} {cs:Array Value} {T:TypeId} (h:w.heap[b]? =some (.cells cs T)) (i:Nat) {v:Value} (hv:cs[i]? =some v):w.cell? (J b i)=some v∧w.frozen? (J b i)=false:=by
 refine⟨?_,by simp[World.frozen?,h]⟩;rw[cell_of_row w b i _ _ _ h];exact hv
theorem E2.Sv {Y ce:Nat} {w0 w G:World} {ks:List Kept} {vs:List (Nat×Obj)} {D τ:St} {T:TypeId} {size n:Nat} {v:Value} {xs:List Value} (h:E2 Y ce w0 ks vs D τ w) (Z:Below w.heap.size w G) (ho:G.ownsRow w.heap.size T size v n xs):E2 Y ce w0 (.row size v xs::ks) vs D τ G:=by
 obtain⟨A,B,e1,e2,t,g1,g2,k1,k2⟩:=h.ex;have h2:=h.below Z;refine E2.row ⟨A,B,⟨e1,e2,t.below Z,g1.trans (Grow.below Z),g2.trans (Grow.below Z),KN.grow (Grow.below Z) k1,KN.grow (Grow.below Z) k2⟩,?_⟩;obtain⟨a,c,rfl,h1,h2,h3⟩:=Ow.bD ho;obtain⟨a',n',c',e0,k1,k2,k3,k4⟩:=h3;simp only[Value.slice.injEq] at e0;obtain⟨rfl,rfl,rfl⟩:=e0;refine⟨a,n,c,rfl,k1,h1,by unfold maxLen;omega,?_⟩
 rcases k4 with k4|⟨g',off,e1,e2,e3,e4⟩
 . exact .inl k4
 . exact .inr ⟨g',off,e1,t.a.rep.mem.fresh g' e2,e3,e4⟩
section
variable {Y ce:Nat} {w0 w G:World} {ks:List Kept} {vs:List (Nat×Obj)} {D τ Np BO:St}
theorem E2.Nq (h:E2 Y ce w0 ks vs D τ w) {s ak id:Nat} (hs:s<8) (Z:gG τ s ak=some (Np,id)):
 zk 9 #[R ce 0,I s,I ak] w fun e G=>e=.returned (.tuple #[I id,I 0])∧E2 Y ce w0 ks vs D Np G:=by
 refine (h.symm.left (f:=9) (args:=#[R ce 0,I s,I ak]) (bE:=Np) (aa:=fun e=>e=.returned (.tuple #[I id,I 0])) (fun A hL eb=>?_)).mono fun e G x=>⟨x.1,x.2.symm⟩
 subst eb;refine (AV hs Z A w hL).mono ?_;rintro e H ⟨A1,rfl,q1,q2,q3⟩;exact⟨rfl,A1,q1,q2,q3⟩
theorem E2.Vr (h:E2 Y ce w0 ks vs D τ w) {s:Nat} (hs:s<8) {o:En.Op} (hi:gV τ s o=some Np) {zo:Nat} (hF:zo<=13824000) {r:ic} (hd:lC zo Np s=some (BO,r,0)):
 zk 11 #[R ce 0,I s,.agg #[I o.kind,I o.E,I o.hi,I o.value]] w fun e G=>∃ vp,e=.returned (.tuple #[.agg #[I r.e,I r.value,vp,I r.over,I r.ay],I 0])∧E2 Y ce w0 (.row 2 vp (bI r.aB)::ks) vs D BO G:=by
 refine (h.symm.KM (f:=11) (args:=#[R ce 0,I s,.agg #[I o.kind,I o.E,I o.hi,I o.value]]) (bE:=BO) (size:=2) (xs:=bI r.aB) (aa:=fun e vp=>e=.returned (.tuple #[.agg #[I r.e,I r.value,vp,I r.over,I r.ay],I 0])) (fun A hL eb=>?_)).mono ?_
 . subst eb
   refine (GX hL s hs o Np (AU hs hi) zo hF BO r 0 hd).mono ?_;rintro e H ⟨A1,vp,rfl,q1,q2,q3,q4⟩;exact⟨A1,vp,rfl,q1,q2,q3,q4⟩
 . rintro e H ⟨vp,e1,e2⟩
   exact⟨vp,e1,e2.symm⟩
theorem E2.Ep (h:E2 Y ce w0 ks vs D τ w) (s:Nat) (hs:s<8):
 zk 10 #[R ce 0,I s] w fun e G=>e=.returned (.agg (oD (τ.status s)))∧E2 Y ce w0 ks vs D τ G:=by
 refine (h.symm.look (f:=10) (args:=#[R ce 0,I s]) (aa:=fun e=>e=.returned (.agg (oD (τ.status s)))) (fun A hL eb=>?_)).mono fun e G x=>⟨x.1,x.2.symm⟩
 subst eb;exact CQ hL s hs
theorem E2.PI (h:E2 Y ce w0 ks vs D τ w):
 zk 13 #[R Y 0] w fun e G=>(∃ av cap,e=.returned (.slice av D.live.length cap))∧E2 Y ce w0 ks vs D τ G:=by
 refine h.look (f:=13) (args:=#[R Y 0]) (aa:=fun e=>∃ av cap,e=.returned (.slice av D.live.length cap)) (fun A hL eb=>?_);subst eb;refine (Ba hL.rep).mono ?_;rintro e G ⟨av,cap,rfl,_,Z⟩;exact⟨⟨av,cap,rfl⟩,Z⟩
theorem E2.Lr (h:E2 Y ce w0 ks vs D τ w) (h1:D.aP.length<100000) (h2:∀ e∈D.aP,e.res.aB.length<=64):
 zk 15 #[R Y 0] w fun e G=>∃ v cs,e=.returned v∧Ow.Row G 0 12 v cs∧BJ G D.aP cs∧Below w.heap.size w G:=by
 obtain⟨A,B,rfl,e2,t,g1,g2,k1,k2⟩:=h.ex;refine (IA t.a.rep h1 (fun e he=>eP (h2 e he) (by decide))).mono ?_;rintro e G ⟨v,cs,rfl,ho,hv,Z⟩;exact⟨v,cs,rfl,BK (yg ho),hv.TV,Z⟩
theorem E2.result (h:E2 Y ce w0 ks vs D τ w) {vo:Value} {cs:List Value} {rs:List ic} {ls:List Kept} (hm:Kept.row 5 vo cs∈ks) (hr:BI rs cs ls) (hl:∀ k∈ls,k∈ks):
 ∃ a cap,vo=.slice a rs.length cap∧∀ n r,rs[n]? =some r->∃ g off va vn vc,a=za g off∧Ow.Row w 0 2 (.slice va vn vc) (bI r.aB)∧∀ f u,(Nh r (.slice va vn vc))[f]? =some u->w.cell? (J g (off+(n*5+f)))=some u:=by
 obtain⟨a,m,cap,rfl,h2,h3,h4,h5⟩:=h.rowOf hm;have hlen:=hr.1;obtain rfl:m=rs.length:=by omega
 refine⟨a,cap,rfl,fun n r hn=>?_⟩;obtain⟨vp,m1,m2⟩:=hr.2 n r hn;have hnl:n<rs.length:=(List.getElem?_eq_some_iff.1 hn).1;have hrow:=h.rowOf (hl _ m1);obtain⟨va,vn,vc,rfl,_⟩:=id hrow
 rcases h5 with h5|⟨g,off,rfl,_,_,hc⟩
 . omega
 . refine⟨g,off,va,vn,vc,rfl,hrow,fun f u hu=>?_⟩
   have hf:f<5:=(List.getElem?_eq_some_iff.1 hu).1;rw[hc (n*5+f) (by omega)];exact m2 f u hu
theorem KU {B C:qQ} {Y ce N L:Nat} {w0 H w2:World} (q:WK B Y w0 [] (KS N L) H) (q2:WK C ce H [] (KS N L) w2):
 ∃ o1 o2,E2 Y ce w0 [.obj B.bw o1,.obj C.bw o2] [] (new N L) (new N L) w2∧(∀ w:World,w.heap[B.bw]? =some o1->w.cell? (J B.bw 0)=zs Y 0)∧∀ w:World,w.heap[C.bw]? =some o2->w.cell? (J C.bw 0)=zs ce 0:=by
 have hge:=fun h=>q2.ge (r:=.eH) (b:=C.bw) h
 obtain⟨A1,e1,l1,r1,g1,t1⟩:=q.ex;obtain⟨A,e,l,r,g,t⟩:=q2.ex;have hm:=(r.mem.all .eH)
 have hm1:=(r1.mem.all .eH)
 have hf:=l1.rep.mem.fresh;have hb0:w0.heap.size<=B.bw:=q.ge (r:=.eH) (b:=B.bw) hm1.1
 have q1 : Pp Y w0 [.obj B.bw _] (new N L) H := ⟨A1.lab (jq w0.heap.size A1.L), e1, l1.Eo (fun b q e hq => oJ e hq) (fun b e => df e) (fun b Z => df (hf b Z)), ⟨g1.os, g1.tape, g1.output, g1.size, g1.block, fun b Z => df (g1.lab b Z), fun b Z e => (by cases e)⟩, ⟨by
   show jq w0.heap.size A1.L B.bw=none
   unfold jq
   rw[aX (by omega),r1.tie _ _ hm1.1],hm1.2⟩,trivial⟩
 refine⟨_,_,Nf q1 ⟨A,e,l,g,r.tie _ _ hm.1,hge hm.1,hm.2⟩ rfl (fun s=>by show (List.replicate 8 none).getD s none=none;rw[mM,List.getElem?_replicate];split<;>rfl) rfl,fun w h=>?_,fun w h=>?_⟩
 . rw[cell_of_row w B.bw 0 _ _ _ h,e1]
   rfl
 . rw[cell_of_row w C.bw 0 _ _ _ h,e]
   rfl
end
structure OI where
 k:Int
 E:Int
 hi:Int
 v:Int
def OI.cs (o:OI):List Value:=[I o.k,I o.E,I o.hi,I o.v]
def oK (l:List OI):List Value:=l.flatMap OI.cs
theorem nE:∀ l:List OI,(oK l).length=l.length*4
 |[]=>rfl
 |o::l=>by rw[show oK (o::l)=o.cs++oK l from rfl,jF,nE l];simp[OI.cs];omega
theorem rT:∀ (l:List OI) (i f:Nat) (o:OI),l[i]? =some o->f<4->(oK l)[i*4+f]? =o.cs[f]?
 |[],_,_,_,h,_=>by cases h
 |x::l,i,f,o,h,hf=>by
  rw[show oK (x::l)=x.cs++oK l from rfl]
  cases i with
  |zero=>
   obtain rfl:=zj h;rw[Nat.zero_mul,Nat.zero_add,List.getElem?_append_left (by simp[OI.cs];omega)]
  |succ i=>
   rw[NA (by simp[OI.cs];omega),show (i+1)*4+f - x.cs.length=i*4+f by simp[OI.cs];omega];exact rT l i f o h hf
theorem KV {w:World} {v:Value} {l:List OI} (h:Ow.Row w 0 4 v (oK l)):∃ a cap,v=.slice a l.length cap∧l.length<=9223372036854775807∧∀ i e,l[i]? =some e->∃ g off,a=za g off∧∀ G,Below w.heap.size w G->∀ f u,f<4->e.cs[f]? =some u->G.cell? (J g (off+(i*4+f)))=some u:=by
 obtain⟨a,n,cap,rfl,hn,hc,hm,h5⟩:=h;rw[nE] at hn;obtain rfl:n=l.length:=by omega
 refine⟨a,cap,rfl,by unfold maxLen at hm;omega,fun i e hi=>?_⟩;have hl:i<l.length:=(List.getElem?_eq_some_iff.1 hi).1
 rcases h5 with h5|⟨g,off,rfl,_,hg,hcell⟩
 . omega
 . refine⟨g,off,rfl,fun G Z f u hf hu=>?_⟩
   have h1:=hcell (i*4+f) (by omega);rw[rT l i f e hi hf,hu] at h1;rw[World.cell?_of_block (Z.block g hg)];exact h1
theorem PK {X:Prop} {zo:World->Prop} {ae:World->Value->Value->Value->Value->Value->Value->Value->Value->Value->Value->Value->Value->Value->Value->Value->Value->Value->Value->Value->Value->Value->Value->Value->Value->Value->Value->Value->Value->Value->Value->Value->Value->Value->Value->Value->Value->Value->Value->Value->Value->Value->Value->Value->Prop} (h1:(∀ w u33 u34 u35 u36 u37 u38 u39 u40 u41 u42 u43 u44 u45 u46 u47 u48 u49 u50 u51 u52 u53 u54 u55 u56 u57 u58 u59 u60 u61 u62 u63 u64 u65 u66 u67 u68 u69 u70 u71 u72 u73 u74 u75,zo w->ae w u33 u34 u35 u36 u37 u38 u39 u40 u41 u42 u43 u44 u45 u46 u47 u48 u49 u50 u51 u52 u53 u54 u55 u56 u57 u58 u59 u60 u61 u62 u63 u64 u65 u66 u67 u68 u69 u70 u71 u72 u73 u74 u75)->X) (h2:∀ w u33 u34 u35 u36 u37 u38 u39 u40 u41 u42 u43 u44 u45 u46 u47 u48 u49 u50 u51 u52 u53 u54 u55 u56 u57 u58 u59 u60 u61 u62 u63 u64 u65 u66 u67 u68 u69 u70 u71 u72 u73 u74 u75,zo w->ae w u33 u34 u35 u36 u37 u38 u39 u40 u41 u42 u43 u44 u45 u46 u47 u48 u49 u50 u51 u52 u53 u54 u55 u56 u57 u58 u59 u60 u61 u62 u63 u64 u65 u66 u67 u68 u69 u70 u71 u72 u73 u74 u75):X:=h1 h2
theorem P8 {X:Prop} {zo:Value->World->Prop} {ae:Value->World->Value->Value->Value->Value->Value->Value->Value->Value->Value->Value->Value->Value->Value->Value->Value->Value->Value->Value->Prop} (h1:(∀ v w u76 u77 u78 u79 u80 u81 u82 u83 u84 u85 u86 u87 u88 u89 u90 u91 u92 u93,zo v w->ae v w u76 u77 u78 u79 u80 u81 u82 u83 u84 u85 u86 u87 u88 u89 u90 u91 u92 u93)->X) (h2:∀ v w u76 u77 u78 u79 u80 u81 u82 u83 u84 u85 u86 u87 u88 u89 u90 u91 u92 u93,zo v w->ae v w u76 u77 u78 u79 u80 u81 u82 u83 u84 u85 u86 u87 u88 u89 u90 u91 u92 u93):X:=h1 h2
theorem BL (kk vv:Nat) (h:kk<=7) (h2:vv<=255):jK ⟨5,kk,20,0⟩=true∧jK ⟨2,kk,0,vv⟩=true∧jK ⟨3,kk,0,vv⟩=true∧jK ⟨1,kk,0,0⟩=true∧jK ⟨4,kk,0,0⟩=true:=by
 unfold jK;simp;omega
theorem dA {w G:World} (Z:Below w.heap.size w G) {a:Addr} {v:Value} (h:w.cell? a=some v):G.cell? a=some v:=by
 have hlt:a.block<w.heap.size:=by
  rcases Nat.lt_or_ge a.block w.heap.size with h1|h1
  . exact h1
  . exfalso;simp[World.cell?,Array.getElem?_eq_none h1] at h
 rw[World.cell?_of_block (Z.block a.block hlt)];exact h
theorem nG (w:World) (g:Nat) (cs:Array Value):But g w (w.setRow g cs):=⟨rfl,rfl,rfl,by simp,fun k V=>setRow_other w g k cs V⟩
theorem zl {Y ce:Nat} {w0 w:World} {ks:List Kept} {vs:List (Nat×Obj)} {D τ:St} (h:E2 Y ce w0 ks vs D τ w):∀ p,(w.heap.size,p) ∉ vs:=fun p hm=>Nat.lt_irrefl _ (h.Vb hm)
theorem E2.drop2 {Y ce:Nat} {w0 w:World} {k1 k2:Kept} {ks:List Kept} {vs:List (Nat×Obj)} {D τ:St} (h:E2 Y ce w0 (k1::([k2]++ks)) vs D τ w):E2 Y ce w0 (k1::ks) vs D τ w:=by
 obtain⟨A,B,e1,e2,t,g1,g2,⟨⟨a1,_,a2⟩,n1⟩,⟨⟨b1,_,b2⟩,n2⟩⟩:=h.ex;have hn:∀ {L:cZ} {w:World} {x:Kept},True:=trivial;refine⟨A,B,e1,e2,t,g1,g2,⟨⟨a1,a2⟩,fun b o hm=>n1 b o ?_⟩,⟨⟨b1,b2⟩,fun b o hm=>n2 b o ?_⟩⟩<;>
 . rcases List.mem_cons.1 hm with e|e
   . exact e ▸ lJ
   . exact pq _ (pq _ e)
theorem sJ (D:St) (s:Nat):(D.status s).live=(D.ag.getD s none).isSome:=by
 unfold St.status
 cases D.ag.getD s none<;>rfl
theorem sK (x:Status) (b:Bool) (h:x.live=b):∃ b1 b2 x3 x4 x5 x6 x7 x8,oD x=#[.bool b,b1,b2,x3,x4,x5,x6,x7,x8]:=by
 unfold oD;rw[h];exact⟨_,_,_,_,_,_,_,_,rfl⟩
theorem xU:∀ (ops:List En.Op) (i:Nat) (o:En.Op),i<ops.length->((((dG ops).set (i*4) (I o.kind)).set (i*4+1) (I o.E)).set (i*4+2) (I o.hi)).set (i*4+3) (I o.value)=dG (ops.set i o)
 |[],_,_,h=>absurd h (Nat.not_lt_zero _)
 |x::ops,0,o,_=>rfl
 |x::ops,i+1,o,h=>by
  have ih:=xU ops i o (by simpa using h);show (((((([I x.kind,I x.E,I x.hi,I x.value]:List Value)++dG ops):List Value).set ((i+1)*4) (I o.kind)).set ((i+1)*4+1) (I o.E)).set ((i+1)*4+2) (I o.hi)).set ((i+1)*4+3) (I o.value)=([I x.kind,I x.E,I x.hi,I x.value]:List Value)++dG (ops.set i o);rw[<-ih];rw[show (i+1)*4=i*4+4 by omega];rfl
theorem KY {w:World} {base:Nat} {T:TypeId} {g n cap:Nat} {ops:List En.Op} (h:w.ownsRow base T 4 (.slice (some (J g 0)) n cap) n (dG ops)) (i:Nat) (hi:i<ops.length) (o:En.Op):
 ((((w.setCell ⟨g,i*4,none⟩ (I o.kind)).setCell ⟨g,i*4+1,none⟩ (I o.E)).setCell ⟨g,i*4+2,none⟩ (I o.hi)).setCell ⟨g,i*4+3,none⟩ (I o.value)).ownsRow base T 4 (.slice (some (J g 0)) n cap) n (dG (ops.set i o))∧∀ w0,Below base w0 w->Below base w0 ((((w.setCell ⟨g,i*4,none⟩ (I o.kind)).setCell ⟨g,i*4+1,none⟩ (I o.E)).setCell ⟨g,i*4+2,none⟩ (I o.hi)).setCell ⟨g,i*4+3,none⟩ (I o.value)):=by
 have Z:base<=g:=(h.lt g rfl).1;have h1:=(h.stored (i*4) (I o.kind)).1;have h2:=(h1.stored (i*4+1) (I o.E)).1;have h3:=(h2.stored (i*4+2) (I o.hi)).1;have h4:=(h3.stored (i*4+3) (I o.value)).1;rw[xU ops i o hi] at h4;exact⟨h4,fun w0 b=>(((b.setCell Z _).setCell Z _).setCell Z _).setCell Z _⟩
set_option maxHeartbeats 16000000 in
theorem Nr (lv at_:Int) (vl:Value) (es:List OI) (w:World) (hv:Ow.Row w 0 4 vl (oK es)):
 zk 3 #[I lv,vl,I at_] w fun e G=>e=.returned (.bool true)∧Below w.heap.size w G:=by
 obtain⟨ii,hii,hz0,hz1,hz2⟩:=info_parts GZ;obtain⟨a,Vs,rfl,hmax,hrow⟩:=KV hv;clear hv;obtain⟨n,hn⟩:∃ n,n=es.length:=⟨_,rfl⟩
 rw[<-hn] at hmax;rw[<-hn];obtain⟨c,hc,hcs⟩:=KJ lv 3 (by decide);replace hcs:(bits .and .i64 lv 255).tmod 3=(c:Int):=hcs;have hat:bits .and .i64 at_ 15=at_ % 16:=Bt.Et at_;obtain⟨zn,P9⟩:∃ q:Nat,at_ % 16=(q:Int):=⟨(at_ % 16).toNat,by have:=Int.emod_nonneg at_ (show (16:Int)≠0 by decide);omega⟩
 rw[P9] at hat;have n1:IntKind.i64.wrap ((c:Int)+1)=(c:Int)+1:=by rw[jH];omega
 have HN:Hid (∀ w,zk 7 #[I 60,zu 100] w fun e G=>∃ B Y,e=.returned (R B.bw 0)∧WK B Y w [] (KS 60 100) G):=fun w=>IB 60 100 (by omega) (by omega) (by omega) (by omega) w
 have HA:=U Kk;have HR:Hid (∀ i e,es[i]? =some e->∃ g off,a=za g off∧∀ G,Below w.heap.size w G->∀ f u,f<4->e.cs[f]? =some u->G.cell? (J g (off+(i*4+f)))=some u):=hrow;have HL:=U hn;have HC:=U hc;have uI:=U (zA hii (zA hz0 (zA hz1 hz2)));clear hrow hn hc P9 hii hz0 hz1 hz2;go_enter Tryz.func3,Tryz.ntmps3
 go_upto_region 5 with (first
   |(go_at_call 7;refine (HN.out _).mono ?_;rintro e w2 ⟨C,ce,rfl,q⟩;obtain⟨o1,o2,q2,hc1,hc2⟩:=KU T0.out q;obtain⟨bx,hbx⟩:∃ bx,bx=B.bw:=⟨_,rfl⟩;obtain⟨cx,hcx⟩:∃ cx,cx=C.bw:=⟨_,rfl⟩;rw[<-hbx] at q2 hc1 ⊢;rw[<-hcx] at q2 hc2 ⊢;have Qa:=U (zA hc1 hc2);have T2:=U q2;clear q q2 hc1 hc2 T0 hbx hcx)
   |(go_at_call 7;refine (HN.out _).mono ?_;rintro e H ⟨B,Y,rfl,q⟩;have T0:=U q;clear q))
 clear HN hcs n1;go_wp2_with fail;have HB3:Hid (Below w.heap.size w w2):=T2.out.toBelow
 go_loopw [9,10] (fun v i wr=>∃ (m:Nat) (ops:List En.Op),i=I m∧m<=n∧ops.length<=8∧(∀ o∈ops,jK o=true)∧wr.ownsRow w2.heap.size 27 4 v ops.length (dG ops)∧Below w2.heap.size w2 wr) (fun _ i _=>n - (intOf i).toNat)
 case atStart=>exact⟨0,[],rfl,zz _,zz _,(by intro o ho;cases ho),World.ownsRow_nil _ _ _ _,Below.refl _ _⟩
 case round=>
  obtain⟨m,ops,rfl,hm,Sw,hok,aS,hbel⟩:=hrel;obtain⟨a2,cap2,rfl,hn2,Qb,_⟩:=Ow.bD aS
  by_cases hlt:m<n∧ops.length<8
  . obtain⟨hl1,hl2⟩:=hlt
    have n1:IntKind.i64.wrap ((m:Int)+1)=(m:Int)+1:=by rw[jH];omega
    obtain⟨e,he⟩:∃ e,es[m]? =some e:=⟨es[m]'(by rw[<-HL.out];exact hl1),zx _⟩
    obtain⟨g,off,rfl,hr⟩:=HR.out m e he;have hr2:=hr wr (HB3.out.trans (hbel.mono HB3.out.size));obtain⟨k,E,hi,v⟩:=e;have c0:=hr2 0 (I k) (by omega) rfl;have c1:=hr2 1 (I E) (by omega) rfl;have c2:=hr2 2 (I hi) (by omega) rfl;have c3:=hr2 3 (I v) (by omega) rfl;simp only[Nat.add_zero,<-Nat.add_assoc] at c0 c1 c2 c3;have i1:(0:Int)<=(m:Int):=by omega
    have i2:(m:Int)<(n:Int):=by omega
    have i3:(ops.length:Int)<8:=by omega
    obtain⟨kk,hkk,Qc⟩:∃ kk:Nat,bits .and .i64 E 7=(kk:Int)∧kk<=7:=⟨(E % 8).toNat,by rw[Bt.FQ];omega,by omega⟩
    obtain⟨vv,hvv,Qd⟩:∃ vv:Nat,bits .and .i64 v 255=(vv:Int)∧vv<=255:=⟨(v % 256).toNat,by rw[Bt.tO];omega,by omega⟩
    have KEEP : Hid (∀ (o : En.Op) (wz v' w6), jK o = true -> Below wr.heap.size wr wz -> w6.ownsRow w2.heap.size 27 4 v' (ops.length + 1) (dG ops ++ [I (o.kind : Int), I (o.E : Int), I (o.hi : Int), I (o.value : Int)]) -> wz.grownBy w6 (Value.slice a2 ops.length cap2).ownBlock ->
        ∃ (m':Nat) (ops':List En.Op),(I ((m:Int)+1):Value)=I m'∧m'<=n∧ops'.length<=8∧(∀ o∈ops',jK o=true)∧w6.ownsRow w2.heap.size 27 4 v' ops'.length (dG ops')∧Below w2.heap.size w2 w6):=by
     intro o wz v' w6 ho Z hown2 hg;refine⟨m+1,ops++[o],rfl,by omega,by simp;omega,fun o' ho'=>?_,?_,?_⟩
     . rcases List.mem_append.1 ho' with h|h
       . exact hok o' h
       . rw[List.mem_singleton.1 h];exact ho
     . rw[ng,jF];exact hown2
     . exact Ow.nX (Ow.own_below aS Z) (Ow.tV hbel Z) (eP hbel.size Z.size) hg
    have HOW:=U (zA aS (zA hbel (zA hok hm)));clear hr hr2 he aS hbel hok hm Sw Qb;have IC:=U hl2;clear hl2
    by_cases h5:k=5
    . subst h5
      go_wp2_with (at_builtin;refine Ow.dK _ rfl (.tmp 70) (.tmp 72) 22 rfl w2.heap.size 27 ii _ 4 32 Tryz.underlying22 uI.out.1 uI.out.2.1 uI.out.2.2.1 uI.out.2.2.2 rfl (by decide) (.slice a2 ops.length cap2) ops.length (dG ops) rfl (Ow.own_below HOW.out.1 ?b1) 0 (.slice _ 1 1) [I 5,I kk,I 20,I 0] rfl ?b4 1 rfl ?b5 ?b2 ?b6 ?b3 ?_)
      case b1=>(repeat (first|exact Below.refl _ _|refine Below.alloc ?_ (by simp) _|refine Below.setCell ?_ (by simp) _))
      case b2=>(have:=IC.out;unfold maxLen;omega)
      case b6=>(have:=IC.out;omega)
      case b3=>(refine eP HOW.out.2.1.size ?_;simp;omega)
      case b5=>(intro u hu;simp at hu;rcases hu with rfl|rfl|rfl|rfl<;>rfl)
      case b4=>exact oH _ _ _ 1 4 _ (by simp) rfl (by decide)
      intro v' w6 q1 q2;go_wp2_with fail
      go_roundw
      case rel=>refine KEEP.out ⟨5,kk,20,0⟩ _ v' w6 (BL kk vv Qc Qd).1 ?_ q1 q2;(repeat (first|exact Below.refl _ _|refine Below.alloc ?_ (by simp) _|refine Below.setCell ?_ (by simp) _))
      case measure=>simp[intOf];omega
    have e5:(k=5)=False:=by simp;exact h5
    have d5:(k==5)=false:=by simp;exact h5
    clear h5
    by_cases h2:k=2
    . subst h2
      go_wp2_with (at_builtin;refine Ow.dK _ rfl (.tmp 70) (.tmp 72) 22 rfl w2.heap.size 27 ii _ 4 32 Tryz.underlying22 uI.out.1 uI.out.2.1 uI.out.2.2.1 uI.out.2.2.2 rfl (by decide) (.slice a2 ops.length cap2) ops.length (dG ops) rfl (Ow.own_below HOW.out.1 ?b1) 0 (.slice _ 1 1) [I 2,I kk,I 0,I vv] rfl ?b4 1 rfl ?b5 ?b2 ?b6 ?b3 ?_)
      case b1=>(repeat (first|exact Below.refl _ _|refine Below.alloc ?_ (by simp) _|refine Below.setCell ?_ (by simp) _))
      case b2=>(have:=IC.out;unfold maxLen;omega)
      case b6=>(have:=IC.out;omega)
      case b3=>(refine eP HOW.out.2.1.size ?_;simp;omega)
      case b5=>(intro u hu;simp at hu;rcases hu with rfl|rfl|rfl|rfl<;>rfl)
      case b4=>exact oH _ _ _ 1 4 _ (by simp) rfl (by decide)
      intro v' w6 q1 q2;go_wp2_with fail
      go_roundw
      case rel=>refine KEEP.out ⟨2,kk,0,vv⟩ _ v' w6 (BL kk vv Qc Qd).2.1 ?_ q1 q2;(repeat (first|exact Below.refl _ _|refine Below.alloc ?_ (by simp) _|refine Below.setCell ?_ (by simp) _))
      case measure=>simp[intOf];omega
    have e2:(k=2)=False:=by simp;exact h2
    have d2:(k==2)=false:=by simp;exact h2
    clear h2
    by_cases h3:k=3
    . subst h3
      go_wp2_with (at_builtin;refine Ow.dK _ rfl (.tmp 70) (.tmp 72) 22 rfl w2.heap.size 27 ii _ 4 32 Tryz.underlying22 uI.out.1 uI.out.2.1 uI.out.2.2.1 uI.out.2.2.2 rfl (by decide) (.slice a2 ops.length cap2) ops.length (dG ops) rfl (Ow.own_below HOW.out.1 ?b1) 0 (.slice _ 1 1) [I 3,I kk,I 0,I vv] rfl ?b4 1 rfl ?b5 ?b2 ?b6 ?b3 ?_)
      case b1=>(repeat (first|exact Below.refl _ _|refine Below.alloc ?_ (by simp) _|refine Below.setCell ?_ (by simp) _))
      case b2=>(have:=IC.out;unfold maxLen;omega)
      case b6=>(have:=IC.out;omega)
      case b3=>(refine eP HOW.out.2.1.size ?_;simp;omega)
      case b5=>(intro u hu;simp at hu;rcases hu with rfl|rfl|rfl|rfl<;>rfl)
      case b4=>exact oH _ _ _ 1 4 _ (by simp) rfl (by decide)
      intro v' w6 q1 q2;go_wp2_with fail
      go_roundw
      case rel=>refine KEEP.out ⟨3,kk,0,vv⟩ _ v' w6 (BL kk vv Qc Qd).2.2.1 ?_ q1 q2;(repeat (first|exact Below.refl _ _|refine Below.alloc ?_ (by simp) _|refine Below.setCell ?_ (by simp) _))
      case measure=>simp[intOf];omega
    have e3:(k=3)=False:=by simp;exact h3
    have d3:(k==3)=false:=by simp;exact h3
    clear h3
    by_cases h1:k=1
    . subst h1
      go_wp2_with (at_builtin;refine Ow.dK _ rfl (.tmp 70) (.tmp 72) 22 rfl w2.heap.size 27 ii _ 4 32 Tryz.underlying22 uI.out.1 uI.out.2.1 uI.out.2.2.1 uI.out.2.2.2 rfl (by decide) (.slice a2 ops.length cap2) ops.length (dG ops) rfl (Ow.own_below HOW.out.1 ?b1) 0 (.slice _ 1 1) [I 1,I kk,I 0,I 0] rfl ?b4 1 rfl ?b5 ?b2 ?b6 ?b3 ?_)
      case b1=>(repeat (first|exact Below.refl _ _|refine Below.alloc ?_ (by simp) _|refine Below.setCell ?_ (by simp) _))
      case b2=>(have:=IC.out;unfold maxLen;omega)
      case b6=>(have:=IC.out;omega)
      case b3=>(refine eP HOW.out.2.1.size ?_;simp;omega)
      case b5=>(intro u hu;simp at hu;rcases hu with rfl|rfl|rfl|rfl<;>rfl)
      case b4=>exact oH _ _ _ 1 4 _ (by simp) rfl (by decide)
      intro v' w6 q1 q2;go_wp2_with fail
      go_roundw
      case rel=>refine KEEP.out ⟨1,kk,0,0⟩ _ v' w6 (BL kk vv Qc Qd).2.2.2.1 ?_ q1 q2;(repeat (first|exact Below.refl _ _|refine Below.alloc ?_ (by simp) _|refine Below.setCell ?_ (by simp) _))
      case measure=>simp[intOf];omega
    have e1:(k=1)=False:=by simp;exact h1
    have d1:(k==1)=false:=by simp;exact h1
    clear h1
    by_cases h4:k=4
    . subst h4
      go_wp2_with (at_builtin;refine Ow.dK _ rfl (.tmp 70) (.tmp 72) 22 rfl w2.heap.size 27 ii _ 4 32 Tryz.underlying22 uI.out.1 uI.out.2.1 uI.out.2.2.1 uI.out.2.2.2 rfl (by decide) (.slice a2 ops.length cap2) ops.length (dG ops) rfl (Ow.own_below HOW.out.1 ?b1) 0 (.slice _ 1 1) [I 4,I kk,I 0,I 0] rfl ?b4 1 rfl ?b5 ?b2 ?b6 ?b3 ?_)
      case b1=>(repeat (first|exact Below.refl _ _|refine Below.alloc ?_ (by simp) _|refine Below.setCell ?_ (by simp) _))
      case b2=>(have:=IC.out;unfold maxLen;omega)
      case b6=>(have:=IC.out;omega)
      case b3=>(refine eP HOW.out.2.1.size ?_;simp;omega)
      case b5=>(intro u hu;simp at hu;rcases hu with rfl|rfl|rfl|rfl<;>rfl)
      case b4=>exact oH _ _ _ 1 4 _ (by simp) rfl (by decide)
      intro v' w6 q1 q2;go_wp2_with fail
      go_roundw
      case rel=>refine KEEP.out ⟨4,kk,0,0⟩ _ v' w6 (BL kk vv Qc Qd).2.2.2.2 ?_ q1 q2;(repeat (first|exact Below.refl _ _|refine Below.alloc ?_ (by simp) _|refine Below.setCell ?_ (by simp) _))
      case measure=>simp[intOf];omega
    have e4:(k=4)=False:=by simp;exact h4
    have d4:(k==4)=false:=by simp;exact h4
    clear h4;go_wp2_with fail
    go_roundw
    case rel=>
     refine⟨m+1,ops,rfl,by omega,Nat.le_of_lt IC.out,HOW.out.2.2.1,Ow.own_below HOW.out.1 ?_,Ow.tV HOW.out.2.1 ?_⟩<;>(repeat (first|exact Below.refl _ _|refine Below.alloc ?_ (by simp) _|refine Below.setCell ?_ (by simp) _))
    case measure=>simp[intOf];omega
  . have hlt2:m<n->¬ ops.length<8:=fun a b=>hlt ⟨a,b⟩
    have Ox:=U hlt2;have HOW:=U (zA aS (zA hbel (zA hok Sw)));clear hlt hlt2 hm Sw aS hbel hok Qb;obtain⟨wy,VK⟩:∃ wy,wy=wr:=⟨_,rfl⟩
    apply PK (zo:=fun wx=>wx=wr)
    case h1=>
     intro KZ;have V:((m:Int)<(n:Int))=False∨((m:Int)<(n:Int))=True∧((ops.length:Int)<8)=False:=by
      by_cases h:m<n
      . exact .inr ⟨by simp;omega,by have:=Ox.out h;simp;omega⟩
      . exact .inl (by simp;omega)
     rcases V with k1|⟨k1,k2⟩
     all_goals (
      go_upto_region 21 with fail
      go_cut [2] from 33 to 75 (fun v wx=>v=I zn∧wx=wr)
      case first=>
       go_wp2_with fail
       go_meet
       exact⟨rfl,rfl⟩
      case rest=>
       obtain⟨rfl,hF⟩:=hcut
       refine (‹∀ (a:Act) (w:World),Code.wp Tryz.prog _ _ a w->_› _ _ ?_)
       exact KZ _ u33 u34 u35 u36 u37 u38 u39 u40 u41 u42 u43 u44 u45 u46 u47 u48 u49 u50 u51 u52 u53 u54 u55 u56 u57 u58 u59 u60 u61 u62 u63 u64 u65 u66 u67 u68 u69 u70 u71 u72 u73 u74 u75 hF)
    case h2=>
     intro w8 u33 u34 u35 u36 u37 u38 u39 u40 u41 u42 u43 u44 u45 u46 u47 u48 u49 u50 u51 u52 u53 u54 u55 u56 u57 u58 u59 u60 u61 u62 u63 u64 u65 u66 u67 u68 u69 u70 u71 u72 u73 u74 u75 hF;subst hF;clear Ox HR HL hat hmax;obtain⟨NL,Sy⟩:∃ NL,NL=ops.length:=⟨_,rfl⟩
     rw[<-Sy];have K6:=U Sy;clear Sy;have Sz:Hid (∀ (ops':List En.Op) (G:World),ops'.length=NL->(∀ o∈ops',jK o=true)->Below w2.heap.size w2 G->G.ownsRow w2.heap.size 27 4 (.slice a2 NL cap2) NL (dG ops')->zS G bx 0 Y 0∧zk 8 #[R Y 0,I 0,I ((c:Int)+1),.slice a2 NL cap2] G fun e wx=>∃ vo,e=.returned (.tuple #[vo,I 0])∧∃ (ops:List En.Op) (aH az:St) (rs:List ic) (cs:List Value) (ls:List Kept),ops.length=NL∧gG (new 60 100) 0 (c+1)=some (aH,1)∧Cw.Trail 13824000 0 aH (ops++[Cw.fe]) rs az∧rs.length<=NL+1∧az.live.length=0∧Cw.LI 60 100 40000 az∧BI rs cs ls∧E2 Y ce w (.row 5 vo cs::(ls++[.row 4 (.slice a2 NL cap2) (dG ops),.obj bx o1,.obj cx o2])) [] az (new 60 100) wx):=by
      intro ops' G hl ho Z hw;have q:=T2.out.Sv Z hw;have VM:NL<=8:=by rw[K6.out];exact HOW.out.2.2.2
      have hc:=HC.out;refine⟨Qa.out.1 _ (q.obj (by simp)),?_⟩;obtain⟨aH,az,rs,x1,x2,x3,x4,x5,x6,x7⟩:=Cw.FB (ak:=c+1) (by omega) (by omega) (ops:=ops') (by omega) ho;refine (q.whole 0 (by omega) (c+1) ops' a2 NL cap2 (by simp) (by omega) 13824000 (zr _) az rs 0 x5).mono ?_;rintro e wx ⟨vo,cs,ls,rfl,y1,y2⟩;exact⟨vo,rfl,ops',aH,az,rs,cs,ls,hl,x1,x2,by omega,x6,x7,y1,y2⟩
     apply P8 (zo:=fun vo wx=>∃ (ops:List En.Op) (aH az:St) (rs:List ic) (cs:List Value) (ls:List Kept),ops.length=NL∧gG (new 60 100) 0 (c+1)=some (aH,1)∧Cw.Trail 13824000 0 aH (ops++[Cw.fe]) rs az∧rs.length<=NL+1∧az.live.length=0∧Cw.LI 60 100 40000 az∧BI rs cs ls∧E2 Y ce w (.row 5 vo cs::(ls++[.row 4 (.slice a2 NL cap2) (dG ops),.obj bx o1,.obj cx o2])) [] az (new 60 100) wx)
     case h1=>
      intro KZ
      by_cases hq:zn<NL
      . have b1:(zn:Int)<(NL:Int):=by omega
        have b0:(0:Int)<=(zn:Int):=by omega
        obtain⟨g2,ha2⟩:∃ g2,a2=za g2 0:=by
         rcases HOW.out.1.2 with ⟨e1,e2⟩|⟨g,cap',cur,e1,_⟩
         . exfalso;have:=K6.out;omega
         . simp only[Value.slice.injEq] at e1;exact⟨g,e1.1⟩
        have Oe:=U (show w8.ownsRow w2.heap.size 27 4 (.slice (some (J g2 0)) ops.length cap2) ops.length (dG ops) by rw[<-ha2];exact HOW.out.1);have hqo:zn<ops.length:=by rw[<-K6.out];exact hq
        obtain⟨wz,hwz⟩:∃ wz,wz=((((w8.setCell ⟨g2,zn*4,none⟩ (I 7)).setCell ⟨g2,zn*4+1,none⟩ (I 0)).setCell ⟨g2,zn*4+2,none⟩ (I 0)).setCell ⟨g2,zn*4+3,none⟩ (I 0)):=⟨_,rfl⟩
        have HP:Hid (wz.ownsRow w2.heap.size 27 4 (.slice (some (J g2 0)) ops.length cap2) ops.length (dG (ops.set zn ⟨7,0,0,0⟩))∧∀ w0,Below w2.heap.size w0 w8->Below w2.heap.size w0 wz):=by
         rw[hwz];exact KY Oe.out zn hqo ⟨7,0,0,0⟩
        have z0:=Oe.out.frozenAt (zn*4);have z1:=Oe.out.frozenAt (zn*4+1);have z2:=Oe.out.frozenAt (zn*4+2);have z3:=Oe.out.frozenAt (zn*4+3);have cx:∀ f,f<4->∃ v,w8.cell? ⟨g2,zn*4+f,none⟩=some v:=fun f hf=>by
         have:=Oe.out.cellAt (zn*4+f) (by omega);exact⟨_,this.trans (zx (by rw[ni];omega))⟩
        obtain⟨y0,c0⟩:=cx 0 (by omega);obtain⟨y1,c1⟩:=cx 1 (by omega);obtain⟨y2,c2⟩:=cx 2 (by omega);obtain⟨y3,c3⟩:=cx 3 (by omega);simp only[Nat.add_zero] at c0;have HQ:=U hqo;clear cx hqo hq;rw[ha2];have HA2:=U ha2;clear ha2;go_upto_region 24 with fail
        rw[<-hwz];clear hwz;rw[<-HA2.out];obtain⟨x0,HW⟩:=Sz.out (ops.set zn ⟨7,0,0,0⟩) _ (by rw[pz];exact K6.out.symm) (fun o ho=>(List.mem_or_eq_of_mem_set ho).elim (HOW.out.2.2.1 o) (fun e=>by rw[e];decide)) (HP.out.2 _ HOW.out.2.1) (by rw[K6.out,HA2.out];exact HP.out.1);have HW2:=U HW;clear HW
        go_cut [12,13] from 76 to 93 (fun v12 v13 wx=>v13=I 0∧(fun vo wx=>∃ (ops:List En.Op) (aH az:St) (rs:List ic) (cs:List Value) (ls:List Kept),ops.length=NL∧gG (new 60 100) 0 (c+1)=some (aH,1)∧Cw.Trail 13824000 0 aH (ops++[Cw.fe]) rs az∧rs.length<=NL+1∧az.live.length=0∧Cw.LI 60 100 40000 az∧BI rs cs ls∧E2 Y ce w (.row 5 vo cs::(ls++[.row 4 (.slice a2 NL cap2) (dG ops),.obj bx o1,.obj cx o2])) [] az (new 60 100) wx) v12 wx)
        case first=>
         go_wp2_with (go_at_call 8;refine HW2.out.mono ?_;rintro e w9 ⟨vo,rfl,hF⟩;have HF:=U hF;clear hF)
         go_meet
         exact⟨rfl,HF.out⟩
        case rest=>
         obtain⟨rfl,hF⟩:=hcut;refine (‹∀ (a:Act) (w:World),Code.wp Tryz.prog _ _ a w->_› _ _ ?_);exact KZ _ _ u76 u77 u78 u79 u80 u81 u82 u83 u84 u85 u86 u87 u88 u89 u90 u91 u92 u93 hF
      . have b1:((zn:Int)<(NL:Int))=False:=by simp;omega
        go_upto_region 24 with fail
        obtain⟨x0,HW⟩:=Sz.out ops _ K6.out.symm HOW.out.2.2.1 HOW.out.2.1 (by rw[K6.out];exact HOW.out.1);have HW2:=U HW;clear HW
        go_cut [12,13] from 76 to 93 (fun v12 v13 wx=>v13=I 0∧(fun vo wx=>∃ (ops:List En.Op) (aH az:St) (rs:List ic) (cs:List Value) (ls:List Kept),ops.length=NL∧gG (new 60 100) 0 (c+1)=some (aH,1)∧Cw.Trail 13824000 0 aH (ops++[Cw.fe]) rs az∧rs.length<=NL+1∧az.live.length=0∧Cw.LI 60 100 40000 az∧BI rs cs ls∧E2 Y ce w (.row 5 vo cs::(ls++[.row 4 (.slice a2 NL cap2) (dG ops),.obj bx o1,.obj cx o2])) [] az (new 60 100) wx) v12 wx)
        case first=>
         go_wp2_with (go_at_call 8;refine HW2.out.mono ?_;rintro e w9 ⟨vo,rfl,hF⟩;have HF:=U hF;clear hF)
         go_meet
         exact⟨rfl,HF.out⟩
        case rest=>
         obtain⟨rfl,hF⟩:=hcut;refine (‹∀ (a:Act) (w:World),Code.wp Tryz.prog _ _ a w->_› _ _ ?_);exact KZ _ _ u76 u77 u78 u79 u80 u81 u82 u83 u84 u85 u86 u87 u88 u89 u90 u91 u92 u93 hF
     case h2=>
      intro vo w9 u76 u77 u78 u79 u80 u81 u82 u83 u84 u85 u86 u87 u88 u89 u90 u91 u92 u93 hF;have Qe:NL<=8:=by rw[K6.out];exact HOW.out.2.2.2
      have hc3:=HC.out;clear Sz uI HC HOW K6 T2;obtain⟨IQ,aH,az,rs,cs,ls,f1,f2,f3,f4,f5,f6,f7,q⟩:=hF;obtain⟨ks,hks⟩:∃ ks:List Kept,ks=.row 5 vo cs::(ls++[.row 4 (.slice a2 NL cap2) (dG IQ),.obj bx o1,.obj cx o2]):=⟨_,rfl⟩
      rw[<-hks] at q;have m5:Kept.row 5 vo cs∈ks:=by rw[hks];exact lJ
      have m4:Kept.row 4 (.slice a2 NL cap2) (dG IQ)∈ks:=by rw[hks];simp
      have mb:Kept.obj bx o1∈ks:=by rw[hks];simp
      have mc:Kept.obj cx o2∈ks:=by rw[hks];simp
      have ml:∀ k∈ls,k∈ks:=fun k V=>by rw[hks];exact pq _ (List.mem_append_left _ V)
      obtain⟨av,iJ,rfl,_⟩:=q.result m5 f7 ml;have KX:Hid (∀ k0 vs τ G,E2 Y ce w (k0++ks) vs az τ G->zS G bx 0 Y 0∧zS G cx 0 ce 0):=fun k0 vs τ G h=>⟨Qa.out.1 _ (h.obj (List.mem_append_right _ mb)),Qa.out.2 _ (h.obj (List.mem_append_right _ mc))⟩
      have QC:Hid (∀ (k0:List Kept) (k1:Kept) vs τ G,E2 Y ce w (k0++(k1::ks)) vs az τ G->G.cell? (J cx 0)=zs ce 0):=fun k0 k1 vs τ G h=>Qa.out.2 _ (h.obj (List.mem_append_right _ (pq _ mc)))
      have KR:Hid (∀ k0 vs τ G,E2 Y ce w (k0++ks) vs az τ G->∀ n r,rs[n]? =some r->∃ g off va vc,av=za g off∧Ow.Row G 0 2 (.slice va r.aB.length vc) (bI r.aB)∧∀ f u,(Nh r (.slice va r.aB.length vc))[f]? =some u->G.cell? (J g (off+(n*5+f)))=some u):=by
       intro k0 vs τ G h n r hr;obtain⟨BN,Ub,e,hh⟩:=h.result (List.mem_append_right _ m5) f7 (fun k V=>List.mem_append_right _ (ml k V));simp only[Value.slice.injEq] at e;obtain⟨rfl,_,rfl⟩:=e;obtain⟨g,off,va,vn,vc,x1,x2,x3⟩:=hh n r hr;obtain rfl:vn=r.aB.length:=by
        obtain⟨_,_,_,y1,y2,_⟩:=x2;simp only[Value.slice.injEq] at y1;obtain⟨_,rfl,_⟩:=y1;rw[jP] at y2;omega
       exact⟨g,off,va,vc,x1,x2,x3⟩
      have KO:Hid (∀ k0 vs τ G,E2 Y ce w (k0++ks) vs az τ G->∀ k o,IQ[k]? =some o->∃ g off,a2=za g off∧G.cell? ⟨g,off+k*4,none⟩=zt o.kind∧G.cell? ⟨g,off+k*4+1,none⟩=zt o.E∧G.cell? ⟨g,off+k*4+2,none⟩=zt o.hi∧G.cell? ⟨g,off+k*4+3,none⟩=zt o.value):=by
       intro k0 vs τ G h k o ho;obtain⟨BN,n',c',e,y2,y3,y4,y5⟩:=h.rowOf (List.mem_append_right _ m4);simp only[Value.slice.injEq] at e;obtain⟨rfl,rfl,rfl⟩:=e;have hl:=(List.getElem?_eq_some_iff.1 ho).1
       rcases y5 with y5|⟨g,off,rfl,_,_,hc⟩
       . omega
       . obtain⟨x0,x1,x2,x3⟩:=rD IQ k o ho
         exact⟨g,off,rfl,(hc _ (by omega)).trans x0,by rw[Nat.add_assoc];exact (hc _ (by omega)).trans x1,by rw[Nat.add_assoc];exact (hc _ (by omega)).trans x2,by rw[Nat.add_assoc];exact (hc _ (by omega)).trans x3⟩
      have Uc:Hid (zk 9 #[R ce 0,I 0,I ((c:Int)+1)] w9 fun e G=>e=.returned (.tuple #[I 1,I 0])∧E2 Y ce w ks [] az aH G):=q.Nq (s:=0) (ak:=c+1) (by omega) f2;obtain⟨y0,y1⟩:=KX.out [] _ _ _ q;have IL:=U (zA f1 (zA f3 (zA f4 (zA f5 (zA f6 Qe)))));clear m5 m4 mb mc ml q f1 f2 f3 f4 f5 f6 f7 hks Qa Qe hc3;go_wp2_with (go_at_call 9;refine Uc.out.mono ?_;rintro e VN ⟨rfl,q⟩;have Ud:=U q;clear q);clear Uc y0 y1
      go_loopw [16,17] (fun v i wr=>∃ (k:Nat) (τ:St) (vs:List (Nat×Obj)),v=I k∧i=I k∧k<=rs.length∧Cw.Trail 13824000 0 τ ((IQ++[Cw.fe]).drop k) (rs.drop k) az∧E2 Y ce w ks vs az τ wr) (fun _ i _=>20 - (intOf i).toNat)
      case atStart=>exact⟨0,aH,[],rfl,rfl,zz _,IL.out.2.1,Ud.out⟩
      case round=>
       clear Ud;obtain⟨k,τ,vs,rfl,rfl,V,htr,q⟩:=hrel;obtain⟨y0,y1⟩:=KX.out [] _ _ _ q;obtain⟨f1,f3,f4,f5,f6,f8⟩:=IL.out
       by_cases hlt:k<rs.length
       . have hd:rs.drop k≠[]:=by intro e;rw[List.drop_eq_nil_iff] at e;omega
         have hlive:=htr.live.2 hd;obtain⟨o,os',r,rs',Np,BO,e1,e2,e3,e4,e5⟩:=htr.cons hlive;have NK:rs[k]? =some r:=by rw[<-List.head?_drop,e2];rfl
         have NB:(IQ++[Cw.fe]).drop (k+1)=os':=by rw[<-List.tail_drop,e1];rfl
         have e2':rs.drop (k+1)=rs':=by rw[<-List.tail_drop,e2];rfl
         have hok:(IQ++[Cw.fe])[k]? =some o:=by rw[<-List.head?_drop,e1];rfl
         have HST : Hid (zk 10 #[R ce 0, I 0] wr fun e G => (∃ b1 b2 x3 x4 x5 x6 x7 x8, e = .returned (.agg #[.bool true, b1, b2, x3, x4, x5, x6, x7, x8])) ∧ E2 Y ce w ks vs az τ G) := (q.Ep 0 (by omega)).mono fun e G ⟨h, h2⟩ => ⟨by
           obtain⟨b1,b2,x3,x4,x5,x6,x7,x8,hs⟩:=sK (τ.status 0) true ((sJ τ 0).trans hlive)
           exact⟨b1,b2,x3,x4,x5,x6,x7,x8,by rw[h,hs]⟩,h2⟩
         have QD:Hid (∀ k0 vs G,E2 Y ce w (k0++ks) vs az τ G->zk 11 #[R ce 0,I 0,.agg #[I o.kind,I o.E,I o.hi,I o.value]] G fun e w''=>∃ va vc,e=.returned (.tuple #[.agg #[I r.e,I r.value,.slice va r.aB.length vc,I r.over,I r.ay],I 0])∧E2 Y ce w (.row 2 (.slice va r.aB.length vc) (bI r.aB)::(k0++ks)) vs az BO w''):=by
          intro k0 vs G h;refine (h.Vr (s:=0) (by omega) e3 (zr _) e4).mono ?_;rintro e w'' ⟨vp,rfl,h2⟩;obtain⟨va,vn,vc,rfl,y2,_⟩:=h2.rowOf lJ;obtain rfl:vn=r.aB.length:=by rw[jP] at y2;omega
          exact⟨va,vc,rfl,h2⟩
         obtain⟨g3,wF,_,_,rfl,_⟩:=KR.out [] _ _ _ q k r NK;have HK:=U (zA NK (zA hlt (zA (show Cw.Trail 13824000 0 BO ((IQ++[Cw.fe]).drop (k+1)) (rs.drop (k+1)) az by rw[NB,e2'];exact e5) (show k<=9 by omega))));have i0:(0:Int)<=(k:Int):=by omega
         have i1:(k:Int)<=(NL:Int):=by omega
         have i2:(k:Int)<(rs.length:Int):=by omega
         have i3:((rs.length:Int)<=(k:Int))=False:=by simp;omega
         have n1:IntKind.i64.wrap ((k:Int)+1)=(k:Int)+1:=by rw[jH];omega
         by_cases hN:k<NL
         . have ho:IQ[k]? =some o:=by rw[List.getElem?_append_left (by omega)] at hok;exact hok
           obtain⟨g4,Vt,rfl,_⟩:=KO.out [] _ _ _ q k o ho;have i4:(k:Int)<(NL:Int):=by omega
           have HO:=U ho;clear e1 e2 e3 e4 e5 NB e2' hok hd hlive htr NK hlt V f1 f3 f4 f5 f6 f8 q ho hN;go_upto_region 35 with (go_at_call 10;refine HST.out.mono ?_;rintro e QE ⟨⟨b1,b2,x3,x4,x5,x6,x7,x8,rfl⟩,q⟩;have hf:=uf (.bool true) b1 b2 x3 x4 x5 x6 x7 x8;obtain⟨g4',Ue,hg4,o0,VO,VP,o3⟩:=KO.out [_] _ _ _ (q.alloc (.cells #[I 6,I 0,I 0,I 0] 27)) k o HO.out;simp only[Option.some.injEq,Addr.mk.injEq,and_true] at hg4;obtain⟨rfl,rfl⟩:=hg4;obtain⟨_,y3⟩:=KX.out [_] _ _ _ (q.alloc (.cells #[I o.kind,I o.E,I o.hi,I o.value] 27));have Ns:=U (q.alloc (.cells #[I o.kind,I o.E,I o.hi,I o.value] 27));clear q HST)
           generalize SA:QE.heap.size=ob at*;have HS:Hid (∀ k0 vs τ G,E2 Y ce w (k0++(.obj ob (.cells #[I o.kind,I o.E,I o.hi,I o.value] 27)::ks)) vs az τ G->(fun G=>zS G cx 0 ce 0∧zT G ob 0 o.kind∧zT G ob 1 o.E∧zT G ob 2 o.hi∧zT G ob 3 o.value) G):=fun k0 vs τ G h=>by
            have h1:=kP (h.obj (k:=ob) (o:=(.cells #[I o.kind,I o.E,I o.hi,I o.value] 27)) (List.mem_append_right _ lJ));exact⟨QC.out _ _ _ _ _ h,(h1 0 rfl).1,(h1 1 rfl).1,(h1 2 rfl).1,(h1 3 rfl).1⟩
           have x0:=HS.out [] _ _ _ Ns.out;have TQ:=U Ns.out.drew;have SB:=TQ;clear y0 y1
           go_cut [19,20] from 132 to 140 (fun SC SE wx=>∃ (g1:Nat) (va:Option Addr) (vc:Nat),SC=R g1 0∧SE=I 0∧∃ vs',E2 Y ce w (.row 2 (.slice va r.aB.length vc) (bI r.aB)::ks) ((g1,(.cells #[I r.e,I r.value,.slice va r.aB.length vc,I r.over,I r.ay] 46))::vs') az BO wx)
           case first=>
            refine wp_region_held_drew (S:=(fun G=>zS G cx 0 ce 0∧zT G ob 0 o.kind∧zT G ob 1 o.E∧zT G ob 2 o.hi∧zT G ob 3 o.value)) (by kernel_rfl) ?_ (fun dz=>?_)
            . (try dsimp only);exact x0
            clear x0;generalize World.drew _=vd at*;refine rU (i:=0) rfl dz ?_
            (try simp only[nH,nI,nJ,Act.put,nK,nL,nM])
            refine rU (i:=1) rfl dz ?_
            (try simp only[nH,nI,nJ,Act.put,nK,nL,nM])
            refine rU (i:=2) rfl dz ?_
            (try simp only[nH,nI,nJ,Act.put,nK,nL,nM])
            refine rU (i:=3) rfl dz ?_
            (try simp only[nH,nI,nJ,Act.put,nK,nL,nM])
            refine rU (i:=4) rfl dz ?_
            (try simp only[nH,nI,nJ,Act.put,nK,nL,nM])
            refine wpAnyH_ready (rs:=[5,9]) (by kernel_rfl) (by simp) ?_;refine AllReadyH.cons (o:=_) rfl (fun K hK=>?_) (AllReadyH.cons (o:=_) rfl (fun K hK=>?_) AllReadyH.nil)
            . go_simp
              (go_at_call 11;refine (QD.out [.obj ob (.cells #[I o.kind,I o.E,I o.hi,I o.value] 27)] _ _ TQ.out).mono ?_;rintro e Qf ⟨va,vc,rfl,q⟩)
              have qq:=U q;clear q;refine hK.out _ _ ?_ (fun dz=>?_)
              . (try dsimp only);exact HS.out [.row 2 _ _] _ _ _ qq.out
              clear hK K
              (try simp only[nH,nI,nJ,Act.put,nK,nL,nM])
              refine rU (i:=6) rfl dz ?_
              (try simp only[nH,nI,nJ,Act.put,nK,nL,nM])
              refine rU (i:=7) rfl dz ?_
              (try simp only[nH,nI,nJ,Act.put,nK,nL,nM])
              refine rU (i:=8) rfl dz ?_
              (try simp only[nH,nI,nJ,Act.put,nK,nL,nM])
              refine wpAnyH_ready (rs:=[9]) (by kernel_rfl) (by simp) ?_;refine AllReadyH.cons (o:=_) rfl (fun K hK=>?_) AllReadyH.nil;go_simp;have qa:=U (qq.out.var (.cells #[I 0,I 0,.slice none 0 0,I 0,I 0] 46));have Nt:=qq;refine hK.out _ _ ?_ (fun dz=>?_)
              . (try dsimp only);exact HS.out [.row 2 _ _] _ _ _ qa.out
              clear hK K
              (try simp only[nH,nI,nJ,Act.put,nK,nL,nM])
              refine wpAnyH_ready (rs:=[10]) (by kernel_rfl) (by simp) ?_;refine AllReadyH.cons (o:=_) rfl (fun K hK=>?_) AllReadyH.nil;rw[aV (by rfl)];refine wp_store_row 46 (.tmp 19) (.tmp 139) rfl Qf.heap.size #[I r.e,I r.value,.slice va r.aB.length vc,I r.over,I r.ay] rfl rfl 46 #[I 0,I 0,.slice none 0 0,I 0,I 0] (qa.out.varOf lJ) (by kernel_rfl) rfl (by simp[Value.oneCell']) ?_;have T2:=U (qa.out.put (o':=(.cells #[I r.e,I r.value,.slice va r.aB.length vc,I r.over,I r.ay] 46)) (zl Nt.out) (nG _ _ _) (setRow_heap _ _ _ #[I r.e,I r.value,.slice va r.aB.length vc,I r.over,I r.ay] _ _ (qa.out.varOf lJ)));generalize World.setRow _ _ _=w9 at*;refine hK.out _ _ ?_ (fun dz=>?_)
              . (try dsimp only);exact HS.out [.row 2 _ _] _ _ _ T2.out
              clear hK K
              (try simp only[nH,nI,nJ,Act.put,nK,nL,nM])
              refine rU (i:=11) rfl dz ?_
              (try simp only[nH,nI,nJ,Act.put,nK,nL,nM])
              refine wpAnyH_done (by kernel_rfl) ?_ _;clear dz;have TF:=U (E2.drop2 T2.out);go_wp2_with fail
              go_meet
              exact⟨_,va,vc,rfl,rfl,_,TF.out⟩
            . go_simp
              have qb:=U (TQ.out.var (.cells #[I 0,I 0,.slice none 0 0,I 0,I 0] 46));have Nt:=TQ;refine hK.out _ _ ?_ (fun dz=>?_)
              . (try dsimp only);exact HS.out [] _ _ _ qb.out
              clear hK K
              (try simp only[nH,nI,nJ,Act.put,nK,nL,nM])
              refine wpAnyH_ready (rs:=[5]) (by kernel_rfl) (by simp) ?_;refine AllReadyH.cons (o:=_) rfl (fun K hK=>?_) AllReadyH.nil;go_simp
              (go_at_call 11;refine (QD.out [.obj ob (.cells #[I o.kind,I o.E,I o.hi,I o.value] 27)] _ _ qb.out).mono ?_;rintro e Qf ⟨va,vc,rfl,q⟩)
              have qa:=U q;clear q;refine hK.out _ _ ?_ (fun dz=>?_)
              . (try dsimp only);exact HS.out [.row 2 _ _] _ _ _ qa.out
              clear hK K
              (try simp only[nH,nI,nJ,Act.put,nK,nL,nM])
              refine rU (i:=6) rfl dz ?_
              (try simp only[nH,nI,nJ,Act.put,nK,nL,nM])
              refine rU (i:=7) rfl dz ?_
              (try simp only[nH,nI,nJ,Act.put,nK,nL,nM])
              refine rU (i:=8) rfl dz ?_
              (try simp only[nH,nI,nJ,Act.put,nK,nL,nM])
              refine wpAnyH_ready (rs:=[10]) (by kernel_rfl) (by simp) ?_;refine AllReadyH.cons (o:=_) rfl (fun K hK=>?_) AllReadyH.nil;rw[aV (by rfl)];refine wp_store_row 46 (.tmp 19) (.tmp 139) rfl vd.heap.size #[I r.e,I r.value,.slice va r.aB.length vc,I r.over,I r.ay] rfl rfl 46 #[I 0,I 0,.slice none 0 0,I 0,I 0] (qa.out.varOf lJ) (by kernel_rfl) rfl (by simp[Value.oneCell']) ?_;have T2:=U (qa.out.put (o':=(.cells #[I r.e,I r.value,.slice va r.aB.length vc,I r.over,I r.ay] 46)) (zl Nt.out) (nG _ _ _) (setRow_heap _ _ _ #[I r.e,I r.value,.slice va r.aB.length vc,I r.over,I r.ay] _ _ (qa.out.varOf lJ)));generalize World.setRow _ _ _=w9 at*;refine hK.out _ _ ?_ (fun dz=>?_)
              . (try dsimp only);exact HS.out [.row 2 _ _] _ _ _ T2.out
              clear hK K
              (try simp only[nH,nI,nJ,Act.put,nK,nL,nM])
              refine rU (i:=11) rfl dz ?_
              (try simp only[nH,nI,nJ,Act.put,nK,nL,nM])
              refine wpAnyH_done (by kernel_rfl) ?_ _;clear dz;have TF:=U (E2.drop2 T2.out);go_wp2_with fail
              go_meet
              exact⟨_,va,vc,rfl,rfl,_,TF.out⟩
           case rest=>
            obtain⟨g1,va,vc,rfl,rfl,vs',q⟩:=hcut;obtain⟨g3',Qg,vb,Qh,IE,hrow',hcs⟩:=KR.out [_] _ _ _ q k r HK.out.1;simp only[Option.some.injEq,Addr.mk.injEq,and_true] at IE;obtain⟨rfl,rfl⟩:=IE;have a0:=hcs 0 _ rfl;have a1:=hcs 1 _ rfl;have Nu:=hcs 2 _ rfl;have a3:=hcs 3 _ rfl;have a4:=hcs 4 _ rfl;simp only[Nat.add_zero,<-Nat.add_assoc] at a0 a1 Nu a3 a4;have hr:=kP (q.varOf lJ);have r0:=(hr 0 rfl).1;have r1:=(hr 1 rfl).1;have r2:=(hr 2 rfl).1;have r3:=(hr 3 rfl).1;have r4:=(hr 4 rfl).1;have Nv:=U (fun (G:World) (Z:Below _ _ G)=>zA (dA Z r0) (zA (dA Z r1) (zA (dA Z r2) (zA (dA Z r3) (zA (dA Z r4) (zA (dA Z a0) (zA (dA Z a1) (zA (dA Z Nu) (zA (dA Z a3) (dA Z a4))))))))));have Nw:=U q.drew;have Qi:=U (oI (r.e:Int) (r.value:Int) (r.over:Int) (r.ay:Int) va vb r.aB.length vc Qh r.aB _ (Nw.out.rowOf lJ) (hrow'.below (Below.refl _ _).drew));clear q hr hcs hrow' TQ SB Ns HS QC SA;go_upto_region 36 with fail
            go_region_held3 (fun G=>zT G g1 0 r.e∧zT G g1 1 r.value∧G.cell? (J g1 2)=some (.slice va r.aB.length vc)∧zT G g1 3 r.over∧zT G g1 4 r.ay∧G.cell? ⟨g3,wF+k*5,none⟩=zt r.e∧G.cell? ⟨g3,wF+k*5+1,none⟩=zt r.value∧G.cell? ⟨g3,wF+k*5+2,none⟩=some (.slice vb r.aB.length Qh)∧G.cell? ⟨g3,wF+k*5+3,none⟩=zt r.over∧G.cell? ⟨g3,wF+k*5+4,none⟩=zt r.ay)
             (first|exact⟨r0,r1,r2,r3,r4,a0,a1,Nu,a3,a4⟩|assumption|exact Nv.out _ Ny.out|go_keep)
             (first|(go_at_call 12;refine Qi.out.mono ?_;rintro e Vu ⟨rfl,Z⟩;have SF:=U ((Nw.out.below Z).tail);have Ny:=U ((Below.refl _ _).drew.trans Z);clear Z Nw Qi))
            go_wp2_with fail
            go_roundw
            case rel=>exact⟨k+1,BO,_,rfl,rfl,by have:=HK.out.2.1;omega,HK.out.2.2.1,SF.out⟩
            case measure=>have:=HK.out.2.2.2;simp[intOf];omega
         . obtain rfl:o=Cw.fe:=by
            rw[NA (by omega),show k - IQ.length=0 by omega] at hok;exact (zj hok).symm
           have i4:((k:Int)<(NL:Int))=False:=by simp;omega
           have VQ:(k<NL)=False:=by simp;omega
           clear e1 e2 e3 e4 e5 NB e2' hok hd hlive htr NK hlt V f1 f3 f4 f5 f6 f8 q hN;go_upto_region 35 with (go_at_call 10;refine HST.out.mono ?_;rintro e QE ⟨⟨b1,b2,x3,x4,x5,x6,x7,x8,rfl⟩,q⟩;have hf:=uf (.bool true) b1 b2 x3 x4 x5 x6 x7 x8;obtain⟨_,y3⟩:=KX.out [_] _ _ _ (q.alloc (.cells #[I 6,I 0,I 0,I 0] 27));have Ns:=U (q.alloc (.cells #[I 6,I 0,I 0,I 0] 27));clear q HST)
           generalize SA:QE.heap.size=ob at*;have HS:Hid (∀ k0 vs τ G,E2 Y ce w (k0++(.obj ob (.cells #[I 6,I 0,I 0,I 0] 27)::ks)) vs az τ G->(fun G=>zS G cx 0 ce 0∧zT G ob 0 6∧zT G ob 1 0∧zT G ob 2 0∧zT G ob 3 0) G):=fun k0 vs τ G h=>by
            have h1:=kP (h.obj (k:=ob) (o:=(.cells #[I 6,I 0,I 0,I 0] 27)) (List.mem_append_right _ lJ));exact⟨QC.out _ _ _ _ _ h,(h1 0 rfl).1,(h1 1 rfl).1,(h1 2 rfl).1,(h1 3 rfl).1⟩
           have x0:=HS.out [] _ _ _ Ns.out;have TQ:=U Ns.out.drew;have SB:=TQ;clear y0 y1
           go_cut [19,20] from 132 to 140 (fun SC SE wx=>∃ (g1:Nat) (va:Option Addr) (vc:Nat),SC=R g1 0∧SE=I 0∧∃ vs',E2 Y ce w (.row 2 (.slice va r.aB.length vc) (bI r.aB)::ks) ((g1,(.cells #[I r.e,I r.value,.slice va r.aB.length vc,I r.over,I r.ay] 46))::vs') az BO wx)
           case first=>
            refine wp_region_held_drew (S:=(fun G=>zS G cx 0 ce 0∧zT G ob 0 6∧zT G ob 1 0∧zT G ob 2 0∧zT G ob 3 0)) (by kernel_rfl) ?_ (fun dz=>?_)
            . (try dsimp only);exact x0
            clear x0;generalize World.drew _=vd at*;refine rU (i:=0) rfl dz ?_
            (try simp only[nH,nI,nJ,Act.put,nK,nL,nM])
            refine rU (i:=1) rfl dz ?_
            (try simp only[nH,nI,nJ,Act.put,nK,nL,nM])
            refine rU (i:=2) rfl dz ?_
            (try simp only[nH,nI,nJ,Act.put,nK,nL,nM])
            refine rU (i:=3) rfl dz ?_
            (try simp only[nH,nI,nJ,Act.put,nK,nL,nM])
            refine rU (i:=4) rfl dz ?_
            (try simp only[nH,nI,nJ,Act.put,nK,nL,nM])
            refine wpAnyH_ready (rs:=[5,9]) (by kernel_rfl) (by simp) ?_;refine AllReadyH.cons (o:=_) rfl (fun K hK=>?_) (AllReadyH.cons (o:=_) rfl (fun K hK=>?_) AllReadyH.nil)
            . go_simp
              (go_at_call 11;refine (QD.out [.obj ob (.cells #[I 6,I 0,I 0,I 0] 27)] _ _ TQ.out).mono ?_;rintro e Qf ⟨va,vc,rfl,q⟩)
              have qq:=U q;clear q;refine hK.out _ _ ?_ (fun dz=>?_)
              . (try dsimp only);exact HS.out [.row 2 _ _] _ _ _ qq.out
              clear hK K
              (try simp only[nH,nI,nJ,Act.put,nK,nL,nM])
              refine rU (i:=6) rfl dz ?_
              (try simp only[nH,nI,nJ,Act.put,nK,nL,nM])
              refine rU (i:=7) rfl dz ?_
              (try simp only[nH,nI,nJ,Act.put,nK,nL,nM])
              refine rU (i:=8) rfl dz ?_
              (try simp only[nH,nI,nJ,Act.put,nK,nL,nM])
              refine wpAnyH_ready (rs:=[9]) (by kernel_rfl) (by simp) ?_;refine AllReadyH.cons (o:=_) rfl (fun K hK=>?_) AllReadyH.nil;go_simp;have qa:=U (qq.out.var (.cells #[I 0,I 0,.slice none 0 0,I 0,I 0] 46));have Nt:=qq;refine hK.out _ _ ?_ (fun dz=>?_)
              . (try dsimp only);exact HS.out [.row 2 _ _] _ _ _ qa.out
              clear hK K
              (try simp only[nH,nI,nJ,Act.put,nK,nL,nM])
              refine wpAnyH_ready (rs:=[10]) (by kernel_rfl) (by simp) ?_;refine AllReadyH.cons (o:=_) rfl (fun K hK=>?_) AllReadyH.nil;rw[aV (by rfl)];refine wp_store_row 46 (.tmp 19) (.tmp 139) rfl Qf.heap.size #[I r.e,I r.value,.slice va r.aB.length vc,I r.over,I r.ay] rfl rfl 46 #[I 0,I 0,.slice none 0 0,I 0,I 0] (qa.out.varOf lJ) (by kernel_rfl) rfl (by simp[Value.oneCell']) ?_;have T2:=U (qa.out.put (o':=(.cells #[I r.e,I r.value,.slice va r.aB.length vc,I r.over,I r.ay] 46)) (zl Nt.out) (nG _ _ _) (setRow_heap _ _ _ #[I r.e,I r.value,.slice va r.aB.length vc,I r.over,I r.ay] _ _ (qa.out.varOf lJ)));generalize World.setRow _ _ _=w9 at*;refine hK.out _ _ ?_ (fun dz=>?_)
              . (try dsimp only);exact HS.out [.row 2 _ _] _ _ _ T2.out
              clear hK K
              (try simp only[nH,nI,nJ,Act.put,nK,nL,nM])
              refine rU (i:=11) rfl dz ?_
              (try simp only[nH,nI,nJ,Act.put,nK,nL,nM])
              refine wpAnyH_done (by kernel_rfl) ?_ _;clear dz;have TF:=U (E2.drop2 T2.out);go_wp2_with fail
              go_meet
              exact⟨_,va,vc,rfl,rfl,_,TF.out⟩
            . go_simp
              have qb:=U (TQ.out.var (.cells #[I 0,I 0,.slice none 0 0,I 0,I 0] 46));have Nt:=TQ;refine hK.out _ _ ?_ (fun dz=>?_)
              . (try dsimp only);exact HS.out [] _ _ _ qb.out
              clear hK K
              (try simp only[nH,nI,nJ,Act.put,nK,nL,nM])
              refine wpAnyH_ready (rs:=[5]) (by kernel_rfl) (by simp) ?_;refine AllReadyH.cons (o:=_) rfl (fun K hK=>?_) AllReadyH.nil;go_simp
              (go_at_call 11;refine (QD.out [.obj ob (.cells #[I 6,I 0,I 0,I 0] 27)] _ _ qb.out).mono ?_;rintro e Qf ⟨va,vc,rfl,q⟩)
              have qa:=U q;clear q;refine hK.out _ _ ?_ (fun dz=>?_)
              . (try dsimp only);exact HS.out [.row 2 _ _] _ _ _ qa.out
              clear hK K
              (try simp only[nH,nI,nJ,Act.put,nK,nL,nM])
              refine rU (i:=6) rfl dz ?_
              (try simp only[nH,nI,nJ,Act.put,nK,nL,nM])
              refine rU (i:=7) rfl dz ?_
              (try simp only[nH,nI,nJ,Act.put,nK,nL,nM])
              refine rU (i:=8) rfl dz ?_
              (try simp only[nH,nI,nJ,Act.put,nK,nL,nM])
              refine wpAnyH_ready (rs:=[10]) (by kernel_rfl) (by simp) ?_;refine AllReadyH.cons (o:=_) rfl (fun K hK=>?_) AllReadyH.nil;rw[aV (by rfl)];refine wp_store_row 46 (.tmp 19) (.tmp 139) rfl vd.heap.size #[I r.e,I r.value,.slice va r.aB.length vc,I r.over,I r.ay] rfl rfl 46 #[I 0,I 0,.slice none 0 0,I 0,I 0] (qa.out.varOf lJ) (by kernel_rfl) rfl (by simp[Value.oneCell']) ?_;have T2:=U (qa.out.put (o':=(.cells #[I r.e,I r.value,.slice va r.aB.length vc,I r.over,I r.ay] 46)) (zl Nt.out) (nG _ _ _) (setRow_heap _ _ _ #[I r.e,I r.value,.slice va r.aB.length vc,I r.over,I r.ay] _ _ (qa.out.varOf lJ)));generalize World.setRow _ _ _=w9 at*;refine hK.out _ _ ?_ (fun dz=>?_)
              . (try dsimp only);exact HS.out [.row 2 _ _] _ _ _ T2.out
              clear hK K
              (try simp only[nH,nI,nJ,Act.put,nK,nL,nM])
              refine rU (i:=11) rfl dz ?_
              (try simp only[nH,nI,nJ,Act.put,nK,nL,nM])
              refine wpAnyH_done (by kernel_rfl) ?_ _;clear dz;have TF:=U (E2.drop2 T2.out);go_wp2_with fail
              go_meet
              exact⟨_,va,vc,rfl,rfl,_,TF.out⟩
           case rest=>
            obtain⟨g1,va,vc,rfl,rfl,vs',q⟩:=hcut;obtain⟨g3',Qg,vb,Qh,IE,hrow',hcs⟩:=KR.out [_] _ _ _ q k r HK.out.1;simp only[Option.some.injEq,Addr.mk.injEq,and_true] at IE;obtain⟨rfl,rfl⟩:=IE;have a0:=hcs 0 _ rfl;have a1:=hcs 1 _ rfl;have Nu:=hcs 2 _ rfl;have a3:=hcs 3 _ rfl;have a4:=hcs 4 _ rfl;simp only[Nat.add_zero,<-Nat.add_assoc] at a0 a1 Nu a3 a4;have hr:=kP (q.varOf lJ);have r0:=(hr 0 rfl).1;have r1:=(hr 1 rfl).1;have r2:=(hr 2 rfl).1;have r3:=(hr 3 rfl).1;have r4:=(hr 4 rfl).1;have Nv:=U (fun (G:World) (Z:Below _ _ G)=>zA (dA Z r0) (zA (dA Z r1) (zA (dA Z r2) (zA (dA Z r3) (zA (dA Z r4) (zA (dA Z a0) (zA (dA Z a1) (zA (dA Z Nu) (zA (dA Z a3) (dA Z a4))))))))));have Nw:=U q.drew;have Qi:=U (oI (r.e:Int) (r.value:Int) (r.over:Int) (r.ay:Int) va vb r.aB.length vc Qh r.aB _ (Nw.out.rowOf lJ) (hrow'.below (Below.refl _ _).drew));clear q hr hcs hrow' TQ SB Ns HS QC SA;go_upto_region 36 with fail
            go_region_held3 (fun G=>zT G g1 0 r.e∧zT G g1 1 r.value∧G.cell? (J g1 2)=some (.slice va r.aB.length vc)∧zT G g1 3 r.over∧zT G g1 4 r.ay∧G.cell? ⟨g3,wF+k*5,none⟩=zt r.e∧G.cell? ⟨g3,wF+k*5+1,none⟩=zt r.value∧G.cell? ⟨g3,wF+k*5+2,none⟩=some (.slice vb r.aB.length Qh)∧G.cell? ⟨g3,wF+k*5+3,none⟩=zt r.over∧G.cell? ⟨g3,wF+k*5+4,none⟩=zt r.ay)
             (first|exact⟨r0,r1,r2,r3,r4,a0,a1,Nu,a3,a4⟩|assumption|exact Nv.out _ Ny.out|go_keep)
             (first|(go_at_call 12;refine Qi.out.mono ?_;rintro e Vu ⟨rfl,Z⟩;have SF:=U ((Nw.out.below Z).tail);have Ny:=U ((Below.refl _ _).drew.trans Z);clear Z Nw Qi))
            go_wp2_with fail
            go_roundw
            case rel=>exact⟨k+1,BO,_,rfl,rfl,by have:=HK.out.2.1;omega,HK.out.2.2.1,SF.out⟩
            case measure=>have:=HK.out.2.2.2;simp[intOf];omega
       . have hkr:k=rs.length:=by omega
         subst hkr;rw[List.drop_length] at htr;obtain⟨e,IG⟩:τ=az∧τ.ag.getD 0 none=none:=htr;subst e;obtain⟨tl,htl⟩:∃ tl,tl=τ.aP:=⟨_,rfl⟩
         have ht1:τ.aP.length<100000:=by have:=f6.wf.sh.tl;omega
         have ht2:=f6.wf.sh.tp;have Uf:Hid (∀ G,E2 Y ce w ks vs τ τ G->zk 15 #[R Y 0] G fun e w''=>∃ v cs,e=.returned v∧Ow.Row w'' 0 12 v cs∧BJ w'' tl cs∧Below G.heap.size G w''):=fun G h=>by rw[htl];exact h.Lr ht1 ht2
         have Ug:Hid (∀ G,E2 Y ce w ks vs τ τ G->zk 15 #[R ce 0] G fun e w''=>∃ v cs,e=.returned v∧Ow.Row w'' 0 12 v cs∧BJ w'' tl cs∧Below G.heap.size G w''):=fun G h=>by rw[htl];exact h.symm.Lr ht1 ht2
         have Uh:Hid (∀ G,E2 Y ce w ks vs τ τ G->zk 13 #[R Y 0] G fun e w''=>(∃ av cap,e=.returned (.slice av 0 cap))∧E2 Y ce w ks vs τ τ w''):=fun G h=>by
          have:=h.PI;rw[f5] at this;exact this
         have HST : Hid (zk 10 #[R ce 0, I 0] wr fun e G => (∃ b1 b2 x3 x4 x5 x6 x7 x8, e = .returned (.agg #[.bool false, b1, b2, x3, x4, x5, x6, x7, x8])) ∧ E2 Y ce w ks vs τ τ G) := (q.Ep 0 (by omega)).mono fun e G ⟨h, h2⟩ => ⟨by
           obtain⟨b1,b2,x3,x4,x5,x6,x7,x8,hs⟩:=sK (τ.status 0) false ((sJ τ 0).trans (by rw[IG];rfl))
           exact⟨b1,b2,x3,x4,x5,x6,x7,x8,by rw[h,hs]⟩,h2⟩
         by_cases hN:rs.length<=NL
         . have i1:(rs.length:Int)<=(NL:Int):=by omega
           clear IG htl ht1 ht2 f1 f3 f4 f5 f6 f8 q V hlt KR KO IL hN;go_upto_region 39 with (go_at_call 10;refine HST.out.mono ?_;rintro e QE ⟨⟨b1,b2,x3,x4,x5,x6,x7,x8,rfl⟩,q⟩;have hf:=uf (.bool false) b1 b2 x3 x4 x5 x6 x7 x8;obtain⟨y3,y4⟩:=KX.out [] _ _ _ q;have TQ:=U q.drew;clear q HST)
           clear y0 y1;have y0:=y3;have y1:=y4
           go_region_held3 (fun G=>zS G bx 0 Y 0∧zS G cx 0 ce 0)
            (first|exact⟨y0,y1⟩|assumption|go_keep|exact KX.out [] _ _ _ T0.out|exact KX.out [] _ _ _ T1.out|exact KX.out [] _ _ _ T2.out|exact KX.out [] _ _ _ T3.out|exact KX.out [] _ _ _ T7.out)
            (first
              |(go_at_call 13;refine (Uh.out _ TQ.out).mono ?_;rintro e wA ⟨⟨Vv,cap5,rfl⟩,q⟩;have T0:=U q;clear q TQ)
              |(go_at_call 15;refine (Uf.out _ T0.out).mono ?_;rintro e wB ⟨v1,cs1,rfl,r1,Qj,Z⟩;have T1:=U (T0.out.below Z);clear T0 Z)
              |(go_at_call 15;refine (Ug.out _ T1.out).mono ?_;rintro e wC ⟨v2,cs2,rfl,r2,Qk,Z⟩;have T2:=U (T1.out.below Z);have Ql:=r1.below Z;have v12:=Qj.below Z;clear T1 Z r1 Qj)
              |(go_at_call 14;refine (sG _ _ tl cs1 cs2 _ Ql r2 v12 Qk).mono ?_;rintro e wD ⟨rfl,Z⟩;have T3:=U (T2.out.below Z);clear T2 Z Ql r2 v12 Qk)
              |(go_at_call 16;refine (HA.out _).mono ?_;rintro e wE ⟨rfl,Z⟩;have T7:=U (T3.out.below Z);clear T3 Z))
           go_wp2_with fail;go_ret;exact⟨rfl,T7.out.toBelow⟩
         . have i1:((rs.length:Int)<=(NL:Int))=False:=by simp;omega
           have TQ:=U q.drew;clear IG htl ht1 ht2 f1 f3 f4 f5 f6 f8 q V hlt KR KO IL hN HST;go_upto_region 39 with fail
           go_region_held3 (fun G=>zS G bx 0 Y 0∧zS G cx 0 ce 0)
            (first|exact⟨y0,y1⟩|assumption|go_keep|exact KX.out [] _ _ _ T0.out|exact KX.out [] _ _ _ T1.out|exact KX.out [] _ _ _ T2.out|exact KX.out [] _ _ _ T3.out|exact KX.out [] _ _ _ T7.out)
            (first
              |(go_at_call 13;refine (Uh.out _ TQ.out).mono ?_;rintro e wA ⟨⟨Vv,cap5,rfl⟩,q⟩;have T0:=U q;clear q TQ)
              |(go_at_call 15;refine (Uf.out _ T0.out).mono ?_;rintro e wB ⟨v1,cs1,rfl,r1,Qj,Z⟩;have T1:=U (T0.out.below Z);clear T0 Z)
              |(go_at_call 15;refine (Ug.out _ T1.out).mono ?_;rintro e wC ⟨v2,cs2,rfl,r2,Qk,Z⟩;have T2:=U (T1.out.below Z);have Ql:=r1.below Z;have v12:=Qj.below Z;clear T1 Z r1 Qj)
              |(go_at_call 14;refine (sG _ _ tl cs1 cs2 _ Ql r2 v12 Qk).mono ?_;rintro e wD ⟨rfl,Z⟩;have T3:=U (T2.out.below Z);clear T2 Z Ql r2 v12 Qk)
              |(go_at_call 16;refine (HA.out _).mono ?_;rintro e wE ⟨rfl,Z⟩;have T7:=U (T3.out.below Z);clear T3 Z))
           go_wp2_with fail;go_ret;exact⟨rfl,T7.out.toBelow⟩
end Go.Proofs.YthicolbbmjfkfaaGreat.Em
namespace Go.Proofs.YthicolbbmjfkfaaGreat.Em
open Go.ChangeShapes Go.WideShapes Go.ChangeAt Go.RowKit Go.Deep
theorem II (f:Nat->OI) (n:Nat):∀ i,i<n->∀ j,j<4->(oK ((List.range n).map f))[i*4+j]? =(f i).cs[j]? :=
 fun i hi j hj=>rT _ i j (f i) (by simp[hi]) hj
theorem IJ {zi:Type} {enc:TypeId×Value->zi} {w:World} {base:Nat} {spare:Nat->Bool} {held:Bool} {r:Reach} {b0:Nat} {v:Value} {d:DataW zi} {p:List MemPlace} (hv:Value.okWide Tryz.prog w r b0 22 v) (h:DataW.Trod enc Tryz.prog w base spare held 22 v d p):
 ∃ es:List OI,Ow.Row w 0 4 v (oK es):=by
 have hc4:Tryz.prog.cellsOf 27=4:=by kernel_rfl
 obtain⟨a,len,cap,rfl⟩:=okWide_slice Tryz.underlying22 hv;obtain⟨fuel,hf⟩:=h
 rcases open_slice Tryz.underlying22 hf with ⟨h0,_⟩|⟨ad,len',cap',m,n,zp,Pl,hcs,Z,hl,hm,hmm,_,hi⟩
 . simp[Value.cells] at h0
   obtain⟨rfl,rfl,rfl⟩:=h0;exact⟨[],⟨none,0,0,rfl,rfl,by omega,by unfold maxLen;omega,.inl rfl⟩⟩
 . simp[Value.cells] at hcs
   obtain⟨rfl,rfl,rfl⟩:=hcs;have hle:len<=m:=by rw[hmm];split<;>omega
   have hex:∀ i,∃ e:OI,i<len->(∀ j,j<4->w.cell? (ad.add (i*4+j))=e.cs[j]?):=by
    intro i
    by_cases hil:i<len
    . obtain⟨cs',hcells,htr⟩:=hi i (by omega)
      rw[hc4] at hcells;obtain⟨_,hlen,hat⟩:=World.cells?_some hcells
      match cs',hlen,hcells,htr,hat with
      |[c0,c1,c2,c3],_,hcells,htr,hat=>
       obtain⟨a0,a1,a2,a3,rfl,rfl,rfl,rfl,_⟩:=Jg htr;refine⟨⟨a0,a1,a2,a3⟩,fun _ j hj=>?_⟩;rw[<-add_add];exact hat j hj
    . exact⟨⟨0,0,0,0⟩,fun h=>absurd h hil⟩
   obtain⟨f,hf'⟩:=Classical.axiomOfChoice hex;refine⟨(List.range len).map f,⟨some ad,len,cap,rfl,by rw[nE];simp,hl,hm,?_⟩⟩
   by_cases h0:len=0
   . exact .inl h0
   . right
     obtain⟨b,off,spot⟩:=ad;have hc0:=(hf' 0 (by omega)) 0 (by omega);have hcell0:w.cell? ((⟨b,off,spot⟩:Addr).add (0*4+0))=some (I (f 0).k):=hc0;have hspot:spot=none:=by simpa [Addr.add] using World.cell?_spot hcell0
     subst hspot;have hadd:∀ i,((J b off):Addr).add i=(J b (off+i)):=by
      intro i;unfold Addr.add;split
      . rename_i h;subst h;rfl
      . rfl
     refine⟨b,off,rfl,by omega,World.block_lt_of_cell? w (J b off) (by simpa [Addr.add] using hcell0),fun j hj=>?_⟩;have hd:j=(j / 4)*4+j % 4:=by omega
     rw[<-hadd j,hd,II f len (j / 4) (by omega) (j % 4) (by omega)];exact (hf' (j / 4) (by omega)) (j % 4) (by omega)
theorem Nz (lv:Int) (vl:Value) (es:List OI) (at_:Int) (w:World) (h0:(Lit.int .i64 lv).wf=true) (hv:Ow.Row w 0 4 vl (oK es)) (h1:(Lit.int .i64 at_).wf=true):
 zk 3 #[I lv,vl,I at_] w fun e G=>e=.returned (.bool true)∧Below w.heap.size w G:=Nr lv at_ vl es w hv
end Go.Proofs.YthicolbbmjfkfaaGreat.Em
