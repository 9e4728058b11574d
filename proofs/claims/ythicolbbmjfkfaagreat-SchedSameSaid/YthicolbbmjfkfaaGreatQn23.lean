import Derived.Test.YthicolbbmjfkfaaGreatQn22
set_option linter.unusedVariables false
set_option linter.unusedSimpArgs false
set_option maxRecDepth 100000
set_option maxHeartbeats 1600000
namespace Go.Proofs.YthicolbbmjfkfaaGreat.Em.Cw
open En
/- How far it is tq a call's end:what is left,and what may be turned yet. -/
def GI (D:St):Nat->Nat->Nat
 |0,_=>0
 |m+1,l=>if l=0 then 0 else GI D m (D.word (af l 2))+1
def _root_.Go.Proofs.YthicolbbmjfkfaaGreat.En.St.zo (D:St) (l:Nat):Nat:=GI D 300 l
def _root_.Go.Proofs.YthicolbbmjfkfaaGreat.En.St.Dh (D:St) (F:Nat):Nat:=D.zo (D.word (9+F))
def _root_.Go.Proofs.YthicolbbmjfkfaaGreat.En.St.Dn (D:St) (l:Nat):Nat:=D.zo (D.word (af l 2))
section
variable {N L n s q d:Nat} {D τ υ:St} {t:bL} {c:dN} {C:Nat->List Nat} {O O':Nat->Nat}
theorem fE.fn:∀ {ls ls':List Nat} {h:Nat},fE D h ls->fE D h ls'->ls=ls':=by
 intro ls
 induction ls with
 |nil=>
  intro ls' h a b
  cases ls' with
  |nil=>rfl
  |cons l ls'=>exact absurd a (by rw[b.1];exact b.2.1)
 |cons l ls ih=>
  intro ls' h a b
  cases ls' with
  |nil=>exact absurd b (by rw[a.1];exact a.2.1)
  |cons l' ls'=>
   have e:l=l':=a.1.symm.trans b.1;subst e;rw[ih a.2.2 b.2.2]
theorem fE.nodup:∀ {ls:List Nat} {h:Nat},fE D h ls->(ls.map ag).Nodup:=by
 intro ls
 induction ls with
 |nil=>intro h _;exact List.nodup_nil
 |cons l ls ih=>
  intro h a;rw[List.map_cons,List.nodup_cons];refine⟨fun hm=>?_,ih a.2.2⟩;obtain⟨x,hx,e⟩:=List.mem_map.1 hm;obtain⟨pre,post,e1,e2⟩:=a.2.2.split hx;have ew:af x 2=af l 2:=by unfold af;rw[e]
  rw[ew] at e2;have:=fE.fn a.2.2 e2;rw[e1] at this;have:=congrArg List.length this;simp at this;omega
theorem GJ:∀ (m:Nat) (ls:List Nat) (h:Nat),fE D h ls->ls.length<=m->GI D m h=ls.length:=by
 intro m
 induction m with
 |zero=>
  intro ls h _ hm
  cases ls with
  |nil=>rfl
  |cons l ls=>simp at hm
 |succ m ih=>
  intro ls h hc hm;unfold GI
  cases ls with
  |nil=>rw[aV (show h=0 from hc)];rfl
  |cons l ls=>
   obtain⟨e1,e2,e3⟩:=hc;subst e1;rw[aR e2,ih ls _ e3 (by simp at hm;omega)];rfl
theorem jE {ls:List Nat} {h:Nat} (hN:N<=256) (hc:fE D h ls) (hl:∀ x∈ls,LK N x):ls.length<=N∧D.zo h=ls.length:=by
 have := Mg N _ hc.nodup (fun x hx => by
   obtain⟨l,hl',rfl⟩:=List.mem_map.1 hx
   exact (hl l hl').ag)
 rw[List.length_map] at this;exact⟨this,GJ _ _ _ hc (by omega)⟩
theorem Path.zo (hN:N<=256) {l:Nat} (h:Path N D O q l):D.zo l<=N∧(l≠0->D.zo l=D.Dn l+1):=by
 obtain⟨ls,h1,h2⟩:=h;obtain⟨a,b⟩:=jE hN h1 (fun x hx=>(h2 x hx).1);refine⟨by omega,fun hn=>?_⟩
 cases ls with
 |nil=>exact absurd h1 hn
 |cons x ls=>
  obtain⟨e1,e2,e3⟩:=h1;subst e1;have:=(jE hN e3 (fun x hx=>(h2 x (qg _ hx)).1)).2;unfold St.Dn;rw[this,b];rfl
theorem Path.ZV (hN:N<=256) {l:Nat} (h:Path N D O q l) (hw:∀ x,LK N x->(1<=O (ag x)∧O (ag x)<=64)∨O (ag x)=200->τ.word (af x 2)=D.word (af x 2)):τ.zo l=D.zo l∧(l≠0->τ.Dn l=D.Dn l):=by
 obtain⟨ls,h1,h2⟩:=h;have Z:∀ x∈ls,LK N x:=fun x hx=>(h2 x hx).1
 have Jd:∀ x∈ls,τ.word (af x 2)=D.word (af x 2):=fun x hx=>hw x (h2 x hx).1 ((h2 x hx).2.imp id (·.1))
 refine⟨((jE hN (h1.kQ Jd) Z).2).trans (jE hN h1 Z).2.symm,fun hn=>?_⟩
 cases ls with
 |nil=>exact absurd h1 hn
 |cons x ls=>
  obtain⟨e1,e2,e3⟩:=h1;subst e1;unfold St.Dn;rw[Jd l nK];have hk':∀ x∈ls,LK N x:=fun x hx=>Z x (qg _ hx)
  exact ((jE hN (e3.kQ (fun x hx=>Jd x (qg _ hx))) hk').2).trans (jE hN e3 hk').2.symm
theorem CS.Dh (h:CS N D C O) (hN:N<=256) {F:Nat} (Z:F<64):D.Dh F=(C F).length∧D.Dh F<=N:=by
 obtain⟨a,b⟩:=jE hN (h.ch F Z) (fun l hl=>(h.lo F Z l hl).1);unfold St.Dh;exact⟨b,by omega⟩
end
def _root_.Go.Proofs.YthicolbbmjfkfaaGreat.En.St.cost (D:St) (F:Nat):Nat:=2+6*D.Dh F
def _root_.Go.Proofs.YthicolbbmjfkfaaGreat.En.St.aM (D:St) (l:List (Nat×Nat×Bool)):Nat:=(l.map fun r=>D.cost r.1).sum
def _root_.Go.Proofs.YthicolbbmjfkfaaGreat.En.St.ji (D:St):Nat->Nat->Nat
 |0,_=>0
 |n+1,k=>2*D.cost k+D.ji n (k+1)
def _root_.Go.Proofs.YthicolbbmjfkfaaGreat.En.St.dF (D:St) (t:bL) (c:dN) (h:dJ):Nat:=
 match h.thn with
 |.get=>20+D.cost h.F+D.aM t.reads
 |.scan k=>20+D.cost h.F+D.ji (c.op.hi - k) (k+1)+D.aM t.reads
 |.change=>400+D.cost h.F+D.aM t.reads
 |.judge i _=>D.aM (t.reads.drop (i+1))
def _root_.Go.Proofs.YthicolbbmjfkfaaGreat.En.St.sg (D:St) (N mb:Nat):Nat:=if mb≠0∧bz (D.word (D.place mb))=4 then 6*N+10 else 0
def _root_.Go.Proofs.YthicolbbmjfkfaaGreat.En.St.st (D:St) (i v x:Nat):Nat:=if D.word i=v then 0 else x
def late:K->Bool
 |.wait _|.cZ|.abort _ _|.turns _ _=>true
 |_=>false
def _root_.Go.Proofs.YthicolbbmjfkfaaGreat.En.St.dw (D:St) (N:Nat) (t:bL) (c:dN):K->Nat
 |.fin _=>12+D.aM t.reads
 |.start h=>D.cost h.F+D.dF t c h
 |.visit h l=>6*D.Dn l+7+D.dF t c h
 |.maker h l _=>6*D.Dn l+6+D.dF t c h
 |.ended h l mb=>6*D.Dn l+5+D.dF t c h+D.sg N mb
 |.gW h l mb _=>6*D.Dn l+4+D.dF t c h+D.sg N mb
 |.seen h l mb=>6*D.Dn l+3+D.dF t c h+D.sg N mb
 |.older h l=>6*D.Dn l+3+D.dF t c h
 |.again _=>14+D.aM t.reads
 |.own _=>290+D.aM t.reads
 |.ib G w _=>288+D.aM t.reads+D.st (af G 1) w 8
 |.claim G w=>286+D.aM t.reads+D.st (af G 1) w 8
 |.fresh _=>3*D.Dh c.op.F+271+D.aM t.reads
 |.free _ head a=>3*D.Dn a+270+D.aM t.reads+D.st (9+c.op.F) head (3*N+20)
 |.dM _ head a _=>3*D.Dn a+269+D.aM t.reads+D.st (9+c.op.F) head (3*N+20)
 |.next _ head a=>3*D.Dn a+268+D.aM t.reads+D.st (9+c.op.F) head (3*N+20)
 |.fB x _ head=>266+D.aM t.reads+if x then 0 else D.st (9+c.op.F) head (3*N+20)
 |.dZ x _ head=>264+D.aM t.reads+if x then 0 else D.st (9+c.op.F) head (3*N+20)
 |.push _ head=>260+D.aM t.reads+D.st (9+c.op.F) head (3*N+20)
 |.dL _ head=>256+D.aM t.reads+D.st (9+c.op.F) head (3*N+20)
 |.over _=>262+D.aM t.reads
 |.iq _ head=>260+D.aM t.reads+D.st (9+c.op.F) head 8
 |.dQ _ head=>256+D.aM t.reads+D.st (9+c.op.F) head 8
 |.draw=>10+D.aM t.reads
 |.ed w _=>9+D.aM t.reads+D.st 0 w 3
 |.turn w _=>8+D.aM t.reads+D.st 0 w 3
 |.dR=>1+D.aM t.reads
 |.wait _=>0
 |.cZ=>0
 |.abort _ _=>0
 |.turns _ _=>0
def ui (N:Nat) (h:dJ):Nat:=
 match h.thn with
 |.change=>9*N+2000
 |.judge _ _=>6*N+1610
 |_=>6*N+1613
def gI (N:Nat):K->Nat
 |.start h|.visit h _|.maker h _ _|.ended h _ _|.gW h _ _ _|.seen h _ _|.older h _=>ui N h
 |.fin _|.draw|.ed _ _|.turn _ _=>6*N+1613
 |.dR|.wait _|.cZ|.abort _ _=>6*N+1610
 |.again _=>6*N+1630
 |.own _|.ib _ _ _|.claim _ _=>9*N+2000
 |.fresh _|.next _ _ _|.free _ _ _|.dM _ _ _ _|.fB _ _ _|.dZ _ _ _=>9*N+1980
 |.push _ _|.dL _ _=>9*N+1972
 |.over _|.iq _ _|.dQ _ _=>9*N+1970
 |.turns l _=>8*l.length
def _root_.Go.Proofs.YthicolbbmjfkfaaGreat.En.St.xs (D:St) (c:dN):K->Nat
 |.next _ head _|.free _ head _|.dM _ head _ _|.push _ head|.dL _ head=>D.st (9+c.op.F) head 8
 |.fB x _ head|.dZ x _ head=>if x then 0 else D.st (9+c.op.F) head 8
 |_=>0
def _root_.Go.Proofs.YthicolbbmjfkfaaGreat.En.St.gI (D:St) (N:Nat) (c:dN) (k:K):Nat:=Cw.gI N k+D.xs c k
def _root_.Go.Proofs.YthicolbbmjfkfaaGreat.En.St.rem (D:St) (N s:Nat):Nat:=
 match D.aj.getD s none with
 |none=>0
 |some t=>
  match D.calls.getD s none with
  |none=>11+D.aM t.reads
  |some c=>match c.k with|some k=>D.dw N t c k|none=>0
def _root_.Go.Proofs.YthicolbbmjfkfaaGreat.En.St.Av (D:St) (N s:Nat):Nat:=
 match D.aj.getD s none with
 |none=>0
 |some t=>
  match D.calls.getD s none with
  |none=>6*N+1613
  |some c=>match c.k with|some k=>D.gI N c k|none=>0
def _root_.Go.Proofs.YthicolbbmjfkfaaGreat.En.St.late (D:St) (s:Nat):Bool:=
 match D.calls.getD s none with
 |some c=>match c.k with|some k=>Cw.late k|none=>false
 |none=>false
def wr (D:St) (s:Nat):K->Option (Nat×Nat)
 |.again e=>some (af (D.x s (D.c s).op.F).own 1,e)
 |.claim G w=>if D.word (af G 1)=w then some (af G 1,mine (D.t s)) else none
 |.fB _ l _=>some (af l 0,mine (D.t s))
 |.dZ _ l _=>some (af l 1,ever)
 |.push l h|.iq l h=>some (af l 2,h)
 |.dL l h|.dQ l h=>if D.word (9+(D.c s).op.F)=h then some (9+(D.c s).op.F,l) else none
 |.ed w _=>if D.word (D.place (aZ w))=pack 1 0 then some (D.place (aZ w),pack 2 (ai w)) else none
 |.turn w now=>if D.word 0=w then some (0,aW (now+1) (D.t s).id) else none
 |.dR=>if D.word (D.place (aZ (aW (D.t s).aA (D.t s).id)))=pack 1 0 then some (D.place (aZ (aW (D.t s).aA (D.t s).id)),pack 2 (ai (aW (D.t s).aA (D.t s).id))) else none
 |.cZ=>some (D.place (D.t s).id,pack 3 (D.t s).aA)
 |.abort _ _=>some (D.place (D.t s).id,pack 4 (D.t s).aA)
 |.turns [] _=>some (1+s,0)
 |.turns (x::_) _=>if x.old=0∨D.word x.at_=x.old then some (x.at_,x.new) else none
 |_=>none
def setW (D:St) (o:Option (Nat×Nat)):List Nat:=match o with|none=>D.words|some (i,v)=>D.words.set i v
section
variable {N L n s q d:Nat} {D τ υ:St} {t:bL} {c:dN} {C:Nat->List Nat} {O O':Nat->Nat}
def Ws (D τ:St):Prop:=τ.words=D.words∧τ.aF=D.aF
theorem Ws.refl (D:St):Ws D D:=⟨rfl,rfl⟩
theorem Ws.trans (a:Ws D τ) (b:Ws τ υ):Ws D υ:=⟨b.1.trans a.1,b.2.trans a.2⟩
theorem Mt (s:Nat):∀ (k:Nat) (τ:St) (F:Nat),Ws τ (iE s k τ F).1:=by
 intro k
 induction k with
 |zero=>intro τ F;exact Ws.refl τ
 |succ k ih=>
  intro τ F;unfold iE
  split
  . exact Ws.refl τ
  . split
    . split
      . exact Ws.trans ⟨rfl,rfl⟩ (ih _ _)
      . exact ih _ _
    . exact Ws.refl τ
theorem BU (s:Nat) (τ:St) (F:Nat):Ws τ (τ.scan s F).1:=Mt s _ τ F
theorem Ws.pre (b:Ws τ υ) (a:Ws D τ):Ws D υ:=a.trans b
theorem BV (s:Nat) (τ:St) (h:dJ) (G:Nat):Ws τ (τ.thn s h G).1:=by
 unfold St.thn
 split
 . simp only;split<;>exact⟨rfl,rfl⟩
 . simp only
   split
   . exact Ws.pre (BU s _ _) ⟨rfl,rfl⟩
   . exact Ws.pre (BU s _ _) ⟨rfl,rfl⟩
 . simp only
   split
   . exact⟨rfl,rfl⟩
   . split
     . exact⟨rfl,rfl⟩
     . split<;>exact⟨rfl,rfl⟩
 . try simp only
   split<;>exact⟨rfl,rfl⟩
theorem Ew (s:Nat) (τ:St) (h:dJ) (G:Nat):Ws τ (τ.visit s h G).1:=by
 unfold St.visit;split
 . exact BV s τ h 0
 . exact Ws.refl τ
theorem IG (s:Nat) (τ:St) (h:dJ) (G mb:Nat):Ws τ (τ.seen s h G mb).1:=by
 unfold St.seen;split
 . exact BV s τ h G
 . exact Ws.refl τ
theorem II (s:Nat) (τ:St) (b:Nat):Ws τ (τ.bind s b):=by
 unfold St.bind;split<;>exact⟨rfl,rfl⟩
theorem GK (D:St):D.take.1.aF=D.aF:=by
 have e:D.list.aF=D.aF:=by unfold St.list;split<;>rfl
 unfold St.take;simp only
 split<;>exact e
theorem BX (s:Nat) (τ:St) (x:Bool) (G head:Nat):Ws τ (τ.slot s x G head).1:=by
 unfold St.slot
 by_cases h0:G=0
 . rw[aV h0]
   have e1:=yf τ;have e2:=GK τ
   cases e:τ.take with
   |mk bB o=>
    rw[e] at e1 e2
    cases o with
    |none=>exact⟨e1,e2⟩
    |some l=>exact⟨e1,e2⟩
 . rw[aR h0];exact⟨rfl,rfl⟩
theorem Ex (s:Nat) (τ:St) (G head a:Nat):Ws τ (τ.jd s G head a).1:=by
 unfold St.jd;split
 . exact BX s τ false G head
 . exact Ws.refl τ
theorem yw (D:St) (l:Nat):(D.give l).aF=D.aF:=by
 unfold St.give
 split
 . simp only
   split<;>rfl
 . rfl
theorem IJ (τ:St) (G:Nat):Ws τ (τ.lost G).1:=by
 unfold St.lost;simp only
 split
 . exact⟨lu τ G,yw τ G⟩
 . exact Ws.refl τ
theorem pR (τ:St) (s:Nat) (e:Ev):Ws τ (τ.dH s e):=by
 unfold St.dH;split<;>exact⟨rfl,rfl⟩
theorem fJ (D:St) (i o v:Nat):(D.cB i o v).words=if D.word i=o then D.words.set i v else D.words:=by unfold St.cB;split<;>rfl
theorem gJ (D:St) (i o v:Nat):(D.cB i o v).aF=D.aF:=by unfold St.cB;split<;>rfl
theorem vk (D:St) (s:Nat) (k:K):(D.run s k).1.words=setW D (wr D s k)∧(D.run s k).1.aF=D.aF:=by
 have tk:Ws D D.tick:=⟨rfl,rfl⟩
 cases k with
 |fin r=>exact⟨rfl,rfl⟩
 |start h=>exact tk.trans (Ew s D.tick h _)
 |visit h l=>exact tk
 |maker h l id=>simp only[St.run];(split;exact tk;split<;>exact tk)
 |older h l=>exact tk.trans (Ew s D.tick h _)
 |ended h l mb=>
  simp only[St.run]
  split
  . exact tk
  . split
    . exact tk.trans (IG s D.tick h l mb)
    . exact tk
 |gW h l mb id=>
  simp only[St.run]
  split
  . exact tk.trans (IG s D.tick h l mb)
  . split
    . exact tk.trans (II s D.tick id)
    . exact tk
 |seen h l mb=>
  simp only[St.run]
  split
  . exact tk
  . split
    . exact (tk.trans (II s D.tick mb)).trans (BV s _ h l)
    . exact tk.trans (BV s _ h l)
 |again e=>
  simp only[St.run]
  split<;>exact⟨rfl,rfl⟩
 |own l=>simp only[St.run];(split;exact tk;split<;>exact tk)
 |ib l w id=>simp only[St.run];split<;>exact tk
 |claim l w=>
  simp only[St.run,wr]
  split
  . rename_i h
    try rw[aR h]
    exact⟨by rw[fJ,aR h];rfl,gJ _ _ _ _⟩
  . rename_i h
    have h':D.word (af l 1)=w:=Classical.byContradiction h
    try rw[aV h']
    have e1:(D.cB (af l 1) w (mine (D.t s))).words=setW D (some (af l 1,mine (D.t s))):=by rw[fJ,aV h'];rfl
    split
    . exact⟨e1,gJ _ _ _ _⟩
    . have e2:Ws (D.cB (af l 1) w (mine (D.t s))) (((D.cB (af l 1) w (mine (D.t s))).bS s ((D.cB (af l 1) w (mine (D.t s))).c s).op.F ⟨0,l,false⟩).slot s true 0 0).1:=Ws.pre (BX s _ true 0 0) ⟨rfl,rfl⟩
      exact⟨e2.1.trans e1,e2.2.trans (gJ _ _ _ _)⟩
 |fresh l=>exact tk.trans (Ex s D.tick l _ _)
 |next l h a=>exact tk.trans (Ex s D.tick l _ _)
 |free l h a=>
  simp only[St.run]
  split
  . exact tk
  . split
    . exact tk.trans (IJ D.tick l)
    . exact tk
 |dM l h a id=>
  simp only[St.run]
  split
  . exact tk
  . exact tk.trans (IJ D.tick l)
 |fB x l h=>exact⟨rfl,rfl⟩
 |dZ x l h=>exact⟨rfl,rfl⟩
 |push l h=>exact⟨rfl,rfl⟩
 |dL l h=>
  simp only[St.run,wr]
  split
  . rename_i e
    try rw[aR e]
    exact⟨by rw[fJ,aR e];rfl,gJ _ _ _ _⟩
  . rename_i e
    have e':D.word (9+(D.c s).op.F)=h:=Classical.byContradiction e
    try rw[aV e']
    exact⟨by show (D.cB _ _ _).words=_;rw[fJ,aV e'];rfl,gJ _ _ _ _⟩
 |over l=>exact tk
 |iq l h=>exact⟨rfl,rfl⟩
 |dQ l h=>
  simp only[St.run,wr]
  split
  . rename_i e
    try rw[aR e]
    exact⟨by rw[fJ,aR e];rfl,gJ _ _ _ _⟩
  . rename_i e
    have e':D.word (9+(D.c s).op.F)=h:=Classical.byContradiction e
    try rw[aV e']
    exact⟨by show (D.cB _ _ _).words=_;rw[fJ,aV e'];rfl,gJ _ _ _ _⟩
 |draw=>simp only[St.run];(split;exact tk;split<;>exact tk)
 |ed w now=>
  simp only[St.run,wr,St.dx];refine⟨?_,gJ _ _ _ _⟩;rw[fJ]
  split<;>rfl
 |turn w now=>
  simp only[St.run,wr]
  split
  . rename_i e
    try rw[aR e]
    exact⟨by rw[fJ,aR e];rfl,gJ _ _ _ _⟩
  . rename_i e
    have e':D.word 0=w:=Classical.byContradiction e
    try rw[aV e']
    exact⟨by show (D.cB _ _ _).words=_;rw[fJ,aV e'];rfl,gJ _ _ _ _⟩
 |dR=>
  simp only[St.run,wr,St.dx];refine⟨?_,gJ _ _ _ _⟩;rw[fJ]
  split<;>rfl
 |wait i=>simp only[St.run];(split;exact tk;split<;>exact tk)
 |cZ=>exact⟨(pR _ s _).1,(pR _ s _).2⟩
 |abort e r=>exact⟨(pR _ s _).1,(pR _ s _).2⟩
 |turns l r=>
  cases l with
  |nil=>exact⟨rfl,rfl⟩
  |cons x l=>
   simp only[St.run,wr]
   by_cases h0:x.old=0
   . rw[aV h0,aV (.inl h0)];exact⟨rfl,rfl⟩
   . rw[aR h0]
     by_cases h1:D.word x.at_=x.old
     . rw[aV (.inr h1)];exact⟨by rw[fJ,aV h1];rfl,gJ _ _ _ _⟩
     . rw[aR (by rintro (a|a);exact h0 a;exact h1 a)];exact⟨by rw[fJ,aR h1];rfl,gJ _ _ _ _⟩
end
def cnt (t:bL) (F:Nat):Nat:=t.reads.countP (fun r=>r.1==F)
def uj (h:dJ) (F:Nat):Nat:=
 match h.thn with
 |.scan _=>if h.F<=F then 1 else 0
 |.judge _ _=>0
 |_=>if F=h.F then 1 else 0
def pend (F:Nat):K->Nat
 |.start h|.visit h _|.maker h _ _|.ended h _ _|.gW h _ _ _|.older h _=>uj h F
 |.seen h _ mb=>uj h F+if mb=0 then 13 else 0
 |.turns l _=>if 192<l.length then 13 else 0
 |_=>0
structure TL (t:bL) (p:Nat->Nat):Prop where
 mul:∀ F,cnt t F+p F<=t.ops
 kd:t.keys.Nodup
 kl:∀ F∈t.keys,F<64
structure Ef (N:Nat) (D τ:St) (O:Nat->Nat) (a b p h k0:Nat):Prop where
 sl:τ.aF=D.aF
 ck:τ.word 0=D.word 0∨a=1
 en:∀ l,LK N l->τ.word (af l 1)=D.word (af l 1)∨b=1
 st:∀ id,id<=2000->bz (τ.word (τ.place id))=4->bz (D.word (D.place id))=4∨p=1
 hd:∀ F,F<64->τ.word (9+F)=D.word (9+F)∨h=1
 dh:∀ F,F<64->τ.Dh F<=D.Dh F+(if F=k0 then h else 0)
 nx:∀ x,LK N x->(1<=O (ag x)∧O (ag x)<=64)∨O (ag x)=200->τ.word (af x 2)=D.word (af x 2)
section
variable {N L n s q cq d:Nat} {D τ υ:St} {t:bL} {c:dN} {C:Nat->List Nat} {O O':Nat->Nat} {a b p h k0:Nat}
theorem Ef.cost (e:Ef N D τ O a b p h k0) {F:Nat} (Z:F<64):τ.cost F<=D.cost F+6*(if F=k0 then h else 0):=by
 have:=e.dh F Z;unfold St.cost;omega
theorem Ef.judge (e:Ef N D τ O a b p h k0) (hh:h<=1):∀ (l:List (Nat×Nat×Bool)),(∀ r∈l,r.1<64)->τ.aM l<=D.aM l+6*(h*l.countP (fun r=>r.1==k0)):=by
 intro l
 induction l with
 |nil=>intro _;exact zz _
 |cons r l ih=>
  intro hl;have h1:=ih (fun r hr=>hl r (qg _ hr));have h2:=e.cost (hl r nK);unfold St.aM at h1 ⊢;rw[List.map_cons,List.map_cons,List.sum_cons,List.sum_cons,List.countP_cons]
  by_cases hr:r.1=k0
  . rw[aV hr] at h2
    rw[show (r.1==k0)=true by simpa using hr,aV rfl,Nat.mul_add];omega
  . rw[aR hr] at h2
    rw[show (r.1==k0)=false by simpa using hr,aR (by decide),Nat.mul_add];omega
theorem Ef.scan (e:Ef N D τ O a b p h k0):∀ (m k:Nat),k+m<=64->τ.ji m k<=D.ji m k+12*(if k<=k0 then h else 0):=by
 intro m
 induction m with
 |zero=>intro k _;exact zz _
 |succ m ih=>
  intro k Z;have h1:=ih (k+1) (by omega);have h2:=e.cost (F:=k) (by omega);unfold St.ji
  split at h1<;>split at h2<;>split<;>omega
theorem Ef.iU (e:Ef N D τ O a b p h k0) (hh:h<=1) {l:List (Nat×Nat×Bool)} (hl:∀ r∈l,r.1<64) (hc:l.countP (fun r=>r.1==k0)<=12):τ.aM l<=D.aM l+72*h:=by
 have h1:=e.judge hh l hl;have h2:h*l.countP (fun r=>r.1==k0)<=h*12:=Nat.mul_le_mul_left _ hc;omega
theorem Ef.sg (e:Ef N D τ O a b p h k0) {mb:Nat} (hm:mb<=2000):τ.sg N mb<=D.sg N mb+(6*N+10)*p:=by
 unfold St.sg
 by_cases h1:mb≠0∧bz (τ.word (τ.place mb))=4
 . rw[aV h1]
   rcases e.st mb hm h1.2 with h2|h2
   . rw[aV ⟨h1.1,h2⟩];omega
   . rw[h2];omega
 . rw[aR h1];exact zz _
theorem nZ {i v x m:Nat} (h:τ.word i=D.word i∨m=1):τ.st i v x<=D.st i v x+x*m:=by
 unfold St.st
 rcases h with h|h
 . rw[h];omega
 . subst h
   split<;>split<;>omega
theorem Ef.after (e:Ef N D τ O a b p h k0) (hh:h<=1) {hu:dJ} (Z:ig t c hu) (hr:∀ r∈t.reads,r.1<64) (hc:cnt t k0<=12):τ.dF t c hu<=D.dF t c hu+90*h:=by
 have hJ:=e.iU hh hr hc;have hC:=e.cost Z.1;have hCs:(if hu.F=k0 then h else 0)<=h:=by split<;>omega
 unfold St.dF;have h2:=Z.2
 split at h2
 . rename_i e1;simp only[e1];omega
 . rename_i k e1
   simp only[e1];have:=e.scan (c.op.hi - k) (k+1) (by have:=Z.1;omega);have h3:(if k+1<=k0 then h else 0)<=h:=by split<;>omega
   omega
 . rename_i e1;simp only[e1];omega
 . rename_i i l e1
   simp only[e1];have:=e.iU hh (l:=t.reads.drop (i+1)) (fun r hr'=>hr r (List.mem_of_mem_drop hr')) (gy (List.Sublist.countP_le (List.drop_sublist _ _)) hc);omega
theorem Ef.dn (e:Ef N D τ O a b p h k0) (hN:N<=256) {l:Nat} (hp:Path N D O cq l) (hl:LK N l):τ.Dn l=D.Dn l:=(hp.ZV hN e.nx).2 hl.ne
set_option maxHeartbeats 1600000 in
theorem Ef.dw (e:Ef N D τ O a b p h k0) (hh:h<=1) (hN:N<=256) (hT:TX N L n t) {k:K} (Z:xU N L t c k) (hp:Pv N D O s cq k) (hc:cnt t k0<=12):τ.dw N t c k<=D.dw N t c k+3*a+8*b+(6*N+10)*p+(3*N+120)*h:=by
 have hJ:=e.iU hh hT.rd hc;have hA:∀ {hu:dJ},ig t c hu->τ.dF t c hu<=D.dF t c hu+90*h:=fun hu=>e.after hh hu hT.rd hc
 have h1:(3*N+120)*h=(3*N)*h+120*h:=Nat.add_mul _ _ _;have h2:(3*N+20)*h=(3*N)*h+20*h:=Nat.add_mul _ _ _
 cases k with
 |fin r=>simp only[St.dw];omega
 |start hu=>
  have:=hA Z;have:=e.cost Z.1;have:(if hu.F=k0 then h else 0)<=h:=by split<;>omega
  simp only[St.dw];omega
 |visit hu l=>have:=hA Z.1;have:=e.dn hN hp Z.2;simp only[St.dw];omega
 |maker hu l id=>have:=hA Z.1;have:=e.dn hN hp Z.2.1;simp only[St.dw];omega
 |older hu l=>have:=hA Z.1;have:=e.dn hN hp Z.2;simp only[St.dw];omega
 |ended hu l mb=>have:=hA Z.1;have:=e.dn hN hp Z.2.1;have:=e.sg Z.2.2;simp only[St.dw];omega
 |gW hu l mb id=>have:=hA Z.1;have:=e.dn hN hp Z.2.1;have:=e.sg Z.2.2.1;simp only[St.dw];omega
 |seen hu l mb=>have:=hA Z.1;have:=e.dn hN hp Z.2.1;have:=e.sg Z.2.2;simp only[St.dw];omega
 |again en=>simp only[St.dw];omega
 |own l=>simp only[St.dw];omega
 |ib l w id=>have:=nZ (v:=w) (x:=8) (e.en l Z.1);simp only[St.dw];omega
 |claim l w=>have:=nZ (v:=w) (x:=8) (e.en l Z.1);simp only[St.dw];omega
 |fresh l=>
  have:=e.dh c.op.F Z.2.2;have:(if c.op.F=k0 then h else 0)<=h:=by split<;>omega
  simp only[St.dw];omega
 |next l head at_=>
  have:=nZ (v:=head) (x:=3*N+20) (e.hd c.op.F Z.2.2.2.2);have:=e.dn hN hp.2 Z.2.2.1;simp only[St.dw];omega
 |free l head at_=>
  have:=nZ (v:=head) (x:=3*N+20) (e.hd c.op.F Z.2.2.2.2);have:=e.dn hN hp.2 Z.2.2.1;simp only[St.dw];omega
 |dM l head at_ id=>
  have:=nZ (v:=head) (x:=3*N+20) (e.hd c.op.F Z.2.2.2.2.2);have:=e.dn hN hp.2 Z.2.2.1;simp only[St.dw];omega
 |fB x l head=>
  have:=nZ (v:=head) (x:=3*N+20) (e.hd c.op.F Z.2.1);simp only[St.dw]
  cases x<;>simp<;>omega
 |dZ x l head=>
  have:=nZ (v:=head) (x:=3*N+20) (e.hd c.op.F Z.2.1);simp only[St.dw]
  cases x<;>simp<;>omega
 |push l head=>have:=nZ (v:=head) (x:=3*N+20) (e.hd c.op.F Z.2.2.2);simp only[St.dw];omega
 |dL l head=>have:=nZ (v:=head) (x:=3*N+20) (e.hd c.op.F Z.2.2.2);simp only[St.dw];omega
 |over l=>simp only[St.dw];omega
 |iq l head=>have:=nZ (v:=head) (x:=8) (e.hd c.op.F Z.2.2.2);simp only[St.dw];omega
 |dQ l head=>have:=nZ (v:=head) (x:=8) (e.hd c.op.F Z.2.2.2);simp only[St.dw];omega
 |draw=>simp only[St.dw];omega
 |ed w now=>have:=nZ (v:=w) (x:=3) e.ck;simp only[St.dw];omega
 |turn w now=>have:=nZ (v:=w) (x:=3) e.ck;simp only[St.dw];omega
 |dR=>simp only[St.dw];omega
 |wait i=>exact zz _
 |cZ=>exact zz _
 |abort e r=>exact zz _
 |turns l r=>exact zz _
theorem Ef.gI (e:Ef N D τ O a b p h k0) {k:K} (Z:xU N L t c k):τ.gI N c k<=D.gI N c k+8*h:=by
 have hst:∀ head,c.op.F<64->τ.st (9+c.op.F) head 8<=D.st (9+c.op.F) head 8+8*h:=fun head hh=>nZ (e.hd _ hh)
 unfold St.gI
 cases k with
 |next l head at_=>have:=hst head Z.2.2.2.2;simp only[St.xs];omega
 |free l head at_=>have:=hst head Z.2.2.2.2;simp only[St.xs];omega
 |dM l head at_ id=>have:=hst head Z.2.2.2.2.2;simp only[St.xs];omega
 |fB x l head=>have:=hst head Z.2.1;simp only[St.xs];cases x<;>simp<;>omega
 |dZ x l head=>have:=hst head Z.2.1;simp only[St.xs];cases x<;>simp<;>omega
 |push l head=>have:=hst head Z.2.2.2;simp only[St.xs];omega
 |dL l head=>have:=hst head Z.2.2.2;simp only[St.xs];omega
 |_=>exact Nat.le_add_right _ _
theorem GL (e:τ.words=D.words):∀ (m l:Nat),GI τ m l=GI D m l:=by
 intro m
 induction m with
 |zero=>intro l;rfl
 |succ m ih=>
  intro l;unfold GI;have:τ.word (af l 2)=D.word (af l 2):=by unfold St.word;rw[e]
  rw[this,ih]
theorem Ws.word (e:Ws D τ) (i:Nat):τ.word i=D.word i:=by unfold St.word;rw[e.1]
theorem Ws.zo (e:Ws D τ) (l:Nat):τ.zo l=D.zo l:=GL e.1 300 l
theorem Ws.Dh (e:Ws D τ) (F:Nat):τ.Dh F=D.Dh F:=by unfold St.Dh;rw[e.word,e.zo]
theorem Ws.Dn (e:Ws D τ) (l:Nat):τ.Dn l=D.Dn l:=by unfold St.Dn;rw[e.word,e.zo]
theorem Ws.cost (e:Ws D τ) (F:Nat):τ.cost F=D.cost F:=by unfold St.cost;rw[e.Dh]
theorem Ws.aM (e:Ws D τ) (l:List (Nat×Nat×Bool)):τ.aM l=D.aM l:=by
 unfold St.aM
 congr 1
 exact List.map_congr_left (fun r _=>e.cost r.1)
theorem Ws.ji (e:Ws D τ):∀ (m k:Nat),τ.ji m k=D.ji m k:=by
 intro m
 induction m with
 |zero=>intro k;rfl
 |succ m ih=>intro k;unfold St.ji;rw[e.cost,ih]
theorem Ws.dF (e:Ws D τ) (t:bL) (c:dN) (h:dJ):τ.dF t c h=D.dF t c h:=by
 unfold St.dF
 split<;>simp only[e.cost,e.aM,e.ji]
theorem Ws.place (e:Ws D τ) (id:Nat):τ.place id=D.place id:=by unfold St.place;rw[e.2]
theorem Ws.sg (e:Ws D τ) (N mb:Nat):τ.sg N mb=D.sg N mb:=by unfold St.sg;rw[e.place,e.word]
theorem Ws.st (e:Ws D τ) (i v x:Nat):τ.st i v x=D.st i v x:=by unfold St.st;rw[e.word]
theorem Ws.dw (e:Ws D τ) (N:Nat) (t:bL) (c:dN) (k:K):τ.dw N t c k=D.dw N t c k:=by
 cases k<;>simp only[St.dw,e.cost,e.aM,e.dF,e.Dn,e.Dh,e.sg,e.st]
theorem Ws.gI (e:Ws D τ) (N:Nat) (c:dN) (k:K):τ.gI N c k=D.gI N c k:=by
 unfold St.gI
 cases k<;>simp only[St.xs,e.st]
end
def wa (D:St) (s:Nat):K->Nat
 |.turn w _=>if D.word 0=w then 1 else 0
 |_=>0
def wb (D:St) (s:Nat):K->Nat
 |.again _|.dZ _ _ _|.turns (_::_) _=>1
 |.claim l w=>if D.word (af l 1)=w then 1 else 0
 |_=>0
def wp (D:St) (s:Nat):K->Nat
 |.abort _ _=>1
 |_=>0
def wh (D:St) (s:Nat):K->Nat
 |.dL _ h|.dQ _ h=>if D.word (9+(D.c s).op.F)=h then 1 else 0
 |_=>0
section
variable {N L n s q cq d:Nat} {D τ υ:St} {t:bL} {c:dN} {C:Nat->List Nat} {O O':Nat->Nat} {a b p h k0:Nat}
theorem qZ (e:τ.words=D.words) (i:Nat):τ.word i=D.word i:=by unfold St.word;rw[e]
theorem iN {i v:Nat} (e:τ.words=D.words.set i v) (j:Nat) (hj:j≠i):τ.word j=D.word j:=by
 unfold St.word;rw[e,gP,aR (fun x=>hj x.1)]
theorem BZ {i v:Nat} (e:τ.words=D.words.set i v) (hi:i<D.words.length):τ.word i=v:=by
 unfold St.word;rw[e,gP,aV ⟨rfl,hi⟩]
theorem fE.Mv (h:CS N D C O) (hN:N<=256) {F:Nat} (Z:F<64) (hh:τ.word (9+F)=D.word (9+F)) (hn:∀ x,LK N x->(1<=O (ag x)∧O (ag x)<=64)∨O (ag x)=200->τ.word (af x 2)=D.word (af x 2)):τ.Dh F=D.Dh F:=by
 have h1:=(h.Dh hN Z).1;rw[h1];unfold St.Dh;rw[hh];refine (jE hN ((h.ch F Z).kQ (fun x hx=>hn x (h.lo F Z x hx).1 (.inl ?_))) (fun x hx=>(h.lo F Z x hx).1)).2;have:=(h.lo F Z x hx).2;omega
theorem PE (e:τ.words=D.words) (es:τ.aF=D.aF):Ef N D τ O a b p h k0:=by
 have ep:∀ id,τ.place id=D.place id:=fun id=>by unfold St.place;rw[es]
 have w:Ws D τ:=⟨e,es⟩
 exact⟨es,.inl (qZ e _),fun l _=>.inl (qZ e _),fun id _ h4=>.inl (by rw[<-ep,<-qZ e];exact h4),fun k _=>.inl (qZ e _),fun k _=>by rw[w.Dh];omega,fun x _ _=>qZ e _⟩
theorem RY (hcs:CS N D C O) (hs:Sh N L n D) {i v:Nat} (e:τ.words=D.words.set i v) (es:τ.aF=D.aF) (h1:¬ (9<=i∧i<73)) (h2:∀ x,LK N x->(1<=O (ag x)∧O (ag x)<=64)∨O (ag x)=200->af x 2≠i)
 (ha:i=0->a=1) (hb:∀ l,LK N l->af l 1=i->b=1) (hp:∀ id,id<=2000->73+N*3+id=i->bz v=4->p=1):Ef N D τ O a b p h k0:=by
 have ep:∀ id,τ.place id=73+N*3+id:=fun id=>by unfold St.place;rw[es,hs.sl]
 have Xi:∀ id,D.place id=73+N*3+id:=fun id=>by unfold St.place;rw[hs.sl]
 refine⟨es,?_,fun l hl=>?_,fun id hid h4=>?_,fun k Z=>.inl ?_,fun k Z=>?_,fun x hx ho=>iN e _ (h2 x hx ho)⟩
 . by_cases h0:i=0
   . exact .inr (ha h0)
   . exact .inl (iN e _ (fun x=>h0 x.symm))
 . by_cases h0:af l 1=i
   . exact .inr (hb l hl h0)
   . exact .inl (iN e _ h0)
 . by_cases h0:73+N*3+id=i
   . refine .inr (hp id hid h0 ?_)
     rw[ep,h0,BZ e (by have:=hs.nw;omega)] at h4;exact h4
   . rw[ep,iN e _ h0] at h4
     rw[Xi];exact .inl h4
 . exact iN e _ (by omega)
 . rw[fE.Mv hcs hs.n1 Z (iN e _ (by omega)) (fun x hx ho=>iN e _ (h2 x hx ho))]
   omega
theorem IK (hcs:CS N D C O) (hs:Sh N L n D) {F G:Nat} (Z:F<64) (hl:LK N G) (ho:64<O (ag G)) (hn:D.word (af G 2)=D.word (9+F)) (e:τ.words=D.words.set (9+F) G) (es:τ.aF=D.aF):Ef N D τ O a b p 1 F:=by
 have ep:∀ id,τ.place id=73+N*3+id:=fun id=>by unfold St.place;rw[es,hs.sl]
 have Xi:∀ id,D.place id=73+N*3+id:=fun id=>by unfold St.place;rw[hs.sl]
 have hw:∀ x,τ.word (af x 2)=D.word (af x 2):=fun x=>iN e _ (by unfold af;omega)
 refine⟨es,.inl (iN e _ (by omega)),fun l _=>.inl (iN e _ (by unfold af;omega)),fun id _ h4=>.inl ?_,fun k _=>.inr rfl,fun k hk'=>?_,fun x _ _=>hw x⟩
 . rw[ep,iN e _ (by omega)] at h4
   rw[Xi];exact h4
 . by_cases hkk:k=F
   . subst hkk
     rw[aV rfl];have h1:=(hcs.Dh hs.n1 Z).1;have hc:fE τ (τ.word (9+k)) (G::C k):=by
      rw[BZ e (by have:=hs.nw;omega)];refine⟨rfl,hl.ne,?_⟩;rw[hw,hn];exact (hcs.ch k Z).kQ (fun x _=>hw x)
     have h2 := (jE hs.n1 hc (fun x hx => by
       rcases List.mem_cons.1 hx with rfl|hx
       . exact hl
       . exact (hcs.lo k Z x hx).1)).2
     unfold St.Dh at h1 ⊢;rw[h2,h1];simp
   . rw[aR hkk,fE.Mv hcs hs.n1 hk' (iN e _ (by omega)) (fun x _ _=>hw x)]
     exact zr _
theorem RZ {l x w:Nat} (hw:w<2):af x 2≠af l w:=by unfold af;omega
theorem PG {l x:Nat} (h:¬ ag x=ag l):af x 2≠af l 2:=by unfold af;omega
set_option maxHeartbeats 1600000 in
theorem Mw (hcs:CS N D C O) (m:Mid N L n s 0 D D t c) {k:K} (Z:xU N L t c k) (hpv:Pv N D O s cq k):Ef N D (D.run s k).1 O (wa D s k) (wb D s k) (wp D s k) (wh D s k) c.op.F:=by
 have et:=m.et;have ec:=m.ec;have hs:=m.sh;obtain⟨e1,e2⟩:=vk D s k;have hN:=hs.n1;have pl:∀ id,D.place id=73+N*3+id:=fun id=>hs.place id
 have hlk:∀ {l},LK N l->ag l<N:=fun hl=>hl.ag
 have quiet:wr D s k=none->Ef N D (D.run s k).1 O (wa D s k) (wb D s k) (wp D s k) (wh D s k) c.op.F:=fun e=>PE (by rw[e1,e];rfl) e2
 have one:∀ {i v},wr D s k=some (i,v)->¬ (9<=i∧i<73)->(∀ x,LK N x->(1<=O (ag x)∧O (ag x)<=64)∨O (ag x)=200->af x 2≠i)->(i=0->wa D s k=1)->(∀ l,LK N l->af l 1=i->wb D s k=1)->(∀ id,id<=2000->73+N*3+id=i->bz v=4->wp D s k=1)->Ef N D (D.run s k).1 O (wa D s k) (wb D s k) (wp D s k) (wh D s k) c.op.F:=by
  intro i v e a1 a2 a3 a4 a5;exact RY hcs hs (by rw[e1,e];rfl) e2 a1 a2 a3 a4 a5
 have Ca:∀ {l w},LK N l->w<2->∀ v,wr D s k=some (af l w,v)->(w=1->wb D s k=1)->Ef N D (D.run s k).1 O (wa D s k) (wb D s k) (wp D s k) (wh D s k) c.op.F:=by
  intro l w hl hw v e hb;have:=hlk hl;refine one e (by unfold af;omega) (fun x _ _=>RZ hw) (fun x=>by unfold af at x;omega) (fun l' _ x=>?_) (fun id _ x=>by unfold af at x;omega);unfold af at x;exact hb (by omega)
 have Mx:∀ {l},LK N l->O (ag l)=100+s->∀ v,wr D s k=some (af l 2,v)->Ef N D (D.run s k).1 O (wa D s k) (wb D s k) (wp D s k) (wh D s k) c.op.F:=by
  intro l hl ho v e;have:=hlk hl;have:=m.s8;refine one e (by unfold af;omega) (fun x _ hx=>PG (fun x=>by rw[x] at hx;omega)) (fun x=>by unfold af at x;omega) (fun l' _ x=>?_) (fun id _ x=>by unfold af at x;omega);unfold af at x;omega
 have wL:∀ {id v},(bz v=4->wp D s k=1)->wr D s k=some (D.place id,v)->Ef N D (D.run s k).1 O (wa D s k) (wb D s k) (wp D s k) (wh D s k) c.op.F:=by
  intro id v h4 e;rw[pl] at e;refine one e (by omega) (fun x hx _=>by have:=hlk hx;unfold af;omega) (fun x=>by omega) (fun l' hl x=>by have:=hlk hl;unfold af at x;omega) (fun id' _ x=>h4)
 have Xj:∀ x e,x<8->bz (pack x e)=x:=fun x e hx=>by unfold bz pack;omega
 cases k with
 |fin r=>exact quiet rfl
 |start h=>exact quiet rfl
 |visit h l=>exact quiet rfl
 |older h l=>exact quiet rfl
 |maker h l id=>exact quiet rfl
 |ended h l mb=>exact quiet rfl
 |gW h l mb id=>exact quiet rfl
 |seen h l mb=>exact quiet rfl
 |again e=>
  obtain⟨h1,h2,x,hx,hxo⟩:=Z;refine Ca (l:=(D.x s (D.c s).op.F).own) (w:=1) ?_ (by omega) _ rfl (fun _=>rfl);have ex:D.x s c.op.F=x:=by unfold St.x;rw[et,hx];rfl
  rw[ec,ex];exact hxo
 |own l=>exact quiet rfl
 |ib l w id=>exact quiet rfl
 |claim l w=>
  by_cases hw:D.word (af l 1)=w
  . exact Ca (l:=l) (w:=1) Z.1 (by omega) _ (by simp only[wr];rw[aV hw]) (fun _=>by simp only[wb];rw[aV hw])
  . exact quiet (by simp only[wr];rw[aR hw])
 |fresh l=>exact quiet rfl
 |next l h a=>exact quiet rfl
 |free l h a=>exact quiet rfl
 |dM l h a id=>exact quiet rfl
 |fB x l h=>exact Ca Z.1 (by omega) _ rfl (fun e=>by cases e)
 |dZ x l h=>exact Ca Z.1 (by omega) _ rfl (fun _=>rfl)
 |push l h=>exact Mx Z.1 hpv _ rfl
 |iq l h=>exact Mx Z.1 hpv _ rfl
 |over l=>exact quiet rfl
 |dL l h=>
  by_cases hw:D.word (9+(D.c s).op.F)=h
  . have ew:wh D s (.dL l h)=1:=by simp only[wh];rw[aV hw]
    rw[ew];have hw':=hw;rw[ec] at hw';exact IK hcs hs Z.2.2.2 Z.1 (by have:=hpv.1;omega) (by rw[hpv.2,hw']) (by rw[e1];simp only[wr];rw[aV hw,ec];rfl) e2
  . exact quiet (by simp only[wr];rw[aR hw])
 |dQ l h=>
  by_cases hw:D.word (9+(D.c s).op.F)=h
  . have ew:wh D s (.dQ l h)=1:=by simp only[wh];rw[aV hw]
    rw[ew];have hw':=hw;rw[ec] at hw';exact IK hcs hs Z.2.2.2 Z.1 (by have:=hpv.1;omega) (by rw[hpv.2,hw']) (by rw[e1];simp only[wr];rw[aV hw,ec];rfl) e2
  . exact quiet (by simp only[wr];rw[aR hw])
 |draw=>exact quiet rfl
 |ed w now=>
  by_cases hw:D.word (D.place (aZ w))=pack 1 0
  . have e:wr D s (.ed w now)=some (D.place (aZ w),pack 2 (ai w)):=aV hw
    exact wL (fun h4=>by rw[Xj 2 _ (by omega)] at h4;omega) e
  . exact quiet (by simp only[wr];rw[aR hw])
 |turn w now=>
  by_cases hw:D.word 0=w
  . refine one (i:=0) (by simp only[wr];rw[aV hw]) (by omega) (fun x hx _=>by unfold af;omega) (fun _=>by simp only[wa];rw[aV hw]) (fun l _ x=>by unfold af at x;omega) (fun id _ x=>by omega)
  . exact quiet (by simp only[wr];rw[aR hw])
 |dR=>
  by_cases hw:D.word (D.place (aZ (aW (D.t s).aA (D.t s).id)))=pack 1 0
  . have e:wr D s .dR=some (D.place (aZ (aW (D.t s).aA (D.t s).id)),pack 2 (ai (aW (D.t s).aA (D.t s).id))):=aV hw
    exact wL (fun h4=>by rw[Xj 2 _ (by omega)] at h4;omega) e
  . exact quiet (by simp only[wr];rw[aR hw])
 |wait i=>exact quiet rfl
 |cZ=>exact wL (fun h4=>by rw[Xj 3 _ (by omega)] at h4;omega) rfl
 |abort e r=>exact wL (fun _=>rfl) rfl
 |turns l r=>
  cases l with
  |nil=>
   have:=m.s8;exact one (i:=1+s) rfl (by omega) (fun x _ _=>by unfold af;omega) (fun x=>by omega) (fun l _ x=>by unfold af at x;omega) (fun id _ x=>by omega)
  |cons x l=>
   by_cases hw:x.old=0∨D.word x.at_=x.old
   . have hp:¬ Pl N x.at_:=hpv x nK
     have hr:=(Z.2.2 x nK).2;refine one (i:=x.at_) (by simp only[wr];rw[aV hw]) (by omega) (fun y hy _ e=>hp (by rw[<-e];exact Pl.next hy)) (fun e=>by omega) (fun l' _ e=>rfl) (fun id _ e=>by omega)
   . exact quiet (by simp only[wr];rw[aR hw])
end
def Less (N L n s d:Nat) (D υ:St) (b B:Nat) (r:St×K):Prop:=∃ t c,Mid N L n s d D r.1 t c∧υ.dw N t c r.2<=b∧υ.gI N c r.2<=B∧TL t (fun F=>pend F r.2)
section
variable {N L n s q cq d b b' B B':Nat} {D τ υ:St} {t:bL} {c:dN} {C:Nat->List Nat} {O O':Nat->Nat} {p p':Nat->Nat}
theorem Less.le {r:St×K} (h:Less N L n s d D υ b B r) (hb:b<=b') (hB:B<=B'):Less N L n s d D υ b' B' r:=by
 obtain⟨t,c,m,h1,h2,h3⟩:=h;exact⟨t,c,m,gy h1 hb,gy h2 hB,h3⟩
theorem TL.mono (h:TL t p) (hp:∀ k,p' k<=p k):TL t p':=⟨fun k=>by have:=h.mul k;have:=hp k;omega,h.kd,h.kl⟩
theorem PH (t:bL) (F G:Nat) (got:Bool) (k:Nat):cnt {t with reads:=t.reads++[(F,G,got)]} k=cnt t k+if F=k then 1 else 0:=by
 unfold cnt;show (t.reads++[(F,G,got)]).countP _=_;rw[List.countP_append,List.countP_cons,List.countP_nil]
 by_cases e:F=k
 . simp[e]
 . simp[e]
theorem TL.read (h:TL t p) {F G:Nat} {got:Bool} (hp:∀ k,p' k+(if F=k then 1 else 0)<=p k):TL {t with reads:=t.reads++[(F,G,got)]} p':=
 ⟨fun k=>by rw[PH];have:=h.mul k;have:=hp k;show _<=t.ops;omega,h.kd,h.kl⟩
theorem sj (υ:St) (l:List (Nat×Nat×Bool)) (r:Nat×Nat×Bool):υ.aM (l++[r])=υ.aM l+υ.cost r.1:=by
 unfold St.aM;rw[List.map_append,List.sum_append];simp
theorem vR (υ:St) (l:List (Nat×Nat×Bool)) (k:Nat):υ.aM (l.drop k)<=υ.aM l:=by
 have:υ.aM l=υ.aM (l.take k)+υ.aM (l.drop k):=by
  conv=>lhs;rw[<-List.take_append_drop k l]
  unfold St.aM;rw[List.map_append,List.sum_append]
 omega
theorem Cb (υ:St) (l:List (Nat×Nat×Bool)) {i j:Nat} (h:i<=j):υ.aM (l.drop j)<=υ.aM (l.drop i):=by
 have:=vR υ (l.drop i) (j - i);rw[List.drop_drop,show i+(j - i)=j by omega] at this;exact this
theorem IL (t:bL):∀ (k i:Nat),i<=t.need k i
 |0,i=>zr _
 |k+1,i=>by
  unfold bL.need
  split
  . have:=IL t k (i+1);omega
  . exact zr _
theorem vS (υ:St) (hT:TX N L n t) {i:Nat} (hi:i<=t.reads.length) (tl:TL t (fun _=>0)):υ.dw N t c (dG t i)<=υ.aM (t.reads.drop i)∧υ.gI N c (dG t i)<=6*N+1610∧TL t (fun F=>pend F (dG t i)):=by
 unfold dG;simp only;have h1:=(BL t (t.reads.length - i) i hi).1;have h2:=IL t (t.reads.length - i) i;generalize t.need (t.reads.length - i) i=j at h1 h2
 split
 . unfold jJ
   split
   . exact⟨zz _,zr _,tl⟩
   . exact⟨zz _,zr _,tl⟩
 . have hj:j<t.reads.length:=by omega
   refine⟨?_,zr _,tl⟩;refine gy ?_ (Cb υ t.reads h2);have e:t.reads.getD j (0,0,false)=t.reads[j]:=by rw[mM,zx hj];rfl
   rw[e,List.drop_eq_getElem_cons hj];show υ.cost t.reads[j].1+υ.aM (t.reads.drop (j+1))<=_;unfold St.aM;rw[List.map_cons,List.sum_cons];exact zr _
theorem Aw (υ:St) (k:Nat):∀ (F:Nat) (τ:St) (c:dN),Mid N L n s d D τ t c->c.op.hi+1 - F=k->TL t (fun k=>if F<=k then 1 else 0)->Less N L n s d D υ (20+υ.ji k F+υ.aM t.reads) (6*N+1613) (iE s k τ F):=by
 induction k with
 |zero=>
  intro F τ c m Z tl;refine⟨t,c,m,?_,zr _,tl.mono (fun _=>zz _)⟩;show 12+_<=_;omega
 |succ k ih=>
  intro F τ c m Z tl;unfold iE;rw[m.ec,m.et]
  split
  . exact⟨t,c,m,by show 12+_<=_;omega,zr _,tl.mono (fun _=>zz _)⟩
  . rename_i hlt
    have Cc:TL t (fun k=>if F+1<=k then 1 else 0):=tl.mono (fun k=>by split<;>split<;>omega)
    split
    . rename_i x hx
      cases hth:x.there with
      |true=>
       simp only[if_true];exact (ih (F+1) _ _ (m.tell F (τ.valueOf x.own)) (by show c.op.hi+1 - _=_;omega) Cc).le (by have:υ.ji (k+1) F=2*υ.cost F+υ.ji k (F+1):=rfl;omega) (zr _)
      |false=>
       simp only[Bool.false_eq_true,if_false];exact (ih (F+1) _ c m (by omega) Cc).le (by have:υ.ji (k+1) F=2*υ.cost F+υ.ji k (F+1):=rfl;omega) (zr _)
    . refine⟨t,c,m,?_,zr _,tl⟩
      show υ.cost F+(20+υ.cost F+υ.ji (c.op.hi - F) (F+1)+υ.aM t.reads)<=20+υ.ji (k+1) F+υ.aM t.reads;rw[show c.op.hi - F=k by omega];show _<=20+(2*υ.cost F+υ.ji k (F+1))+_;omega
theorem uk (υ:St) (m:Mid N L n s d D τ t c) {h:dJ} (hh:ig t c h) (tl:TL t (fun F=>uj h F)) (G:Nat):Less N L (n+1) s d D υ (υ.dF t c h) (ui N h) (τ.thn s h G):=by
 obtain⟨F,at_,thn⟩:=h;obtain⟨Z,h2⟩:=hh;unfold St.thn
 cases thn with
 |get=>
  simp only;have m2:=m.read F G (G !=0) Z;have Cc:TL {t with reads:=t.reads++[(F,G,(G !=0))]} (fun _=>0):=tl.read (fun k=>by show 0+_<=if k=F then 1 else 0;split<;>split<;>omega);have hb:12+υ.aM (t.reads++[(F,G,(G !=0))])<=υ.dF t c ⟨F,at_,.get⟩:=by
   rw[sj];show _<=20+υ.cost F+υ.aM t.reads;show 12+(_+υ.cost F)<=_;omega
  split
  . exact⟨_,c,m2,hb,zr _,Cc⟩
  . exact⟨_,c,m2,hb,zr _,Cc⟩
 |scan k=>
  obtain⟨rfl,hhi,hp⟩:=h2;simp only at Z hp hhi ⊢;have m2:=m.read k G false Z;have Cc:TL {t with reads:=t.reads++[(k,G,false)]} (fun q=>if k+1<=q then 1 else 0):=tl.read (fun q=>by show _<=if k<=q then 1 else 0;split<;>split<;>split<;>omega);have hb:20+υ.ji (c.op.hi+1 - (k+1)) (k+1)+υ.aM (t.reads++[(k,G,false)])<=υ.dF t c ⟨k,at_,.scan k⟩:=by
   rw[sj,show c.op.hi+1 - (k+1)=c.op.hi - k by omega];show _<=20+υ.cost k+υ.ji (c.op.hi - k) (k+1)+υ.aM t.reads;show 20+υ.ji (c.op.hi - k) (k+1)+(_+υ.cost k)<=_;omega
  unfold St.scan
  by_cases h0:G=0
  . rw[aV h0,m2.ec]
    exact (Aw υ _ (k+1) _ c m2 rfl Cc).le hb (zr _)
  . rw[aR h0]
    have m3:=m2.tell k ((τ.read s k G false).valueOf G);rw[m3.ec];exact (Aw υ _ (k+1) _ _ m3 rfl Cc).le hb (zr _)
 |change=>
  obtain⟨hkk,hx⟩:=h2;simp only at Z hkk ⊢;rw[m.ec];have gD:TL t (fun _=>0):=tl.mono (fun _=>zz _);have Cc:TL {t with reads:=t.reads++[(c.op.F,G,false)]} (fun _=>0):=tl.read (fun k=>by show 0+_<=if k=F then 1 else 0;split<;>split<;>omega);have hb:12+υ.aM (t.reads++[(c.op.F,G,false)])<=υ.dF t c ⟨F,at_,.change⟩:=by
   rw[sj];show 12+(_+υ.cost c.op.F)<=400+υ.cost F+υ.aM t.reads;rw[hkk];omega
  have hB:6*N+1613<=ui N ⟨F,at_,.change⟩:=by show _<=9*N+2000;omega
  split
  . exact⟨_,c,m.read _ G false (by omega),hb,hB,Cc⟩
  split
  . exact⟨_,c,m.read _ G false (by omega),hb,hB,Cc⟩
  split
  . refine⟨t,c,m.mono (oW _),?_,?_,gD⟩
    . show 3*υ.Dh c.op.F+271+υ.aM t.reads<=400+υ.cost F+υ.aM t.reads
      rw[hkk];unfold St.cost;omega
    . show 9*N+1980<=9*N+2000;omega
  . refine⟨t,c,m.mono (oW _),?_,zr _,gD⟩
    show 290+υ.aM t.reads<=400+υ.cost F+υ.aM t.reads;omega
 |judge i l=>
  simp only at h2 ⊢;have gD:TL t (fun _=>0):=tl
  split
  . exact⟨t,c,m.mono (oW _),zz _,zr _,gD⟩
  . obtain⟨g1,g2,g3⟩:=vS (c:=c) υ m.t1 (i:=i+1) (show i+1<=t.reads.length from h2) gD
    refine⟨t,c,m.mono (oW _),?_,?_,?_⟩
    . show υ.dw N t c (dG (τ.t s) (i+1))<=_
      rw[m.et];exact g1
    . show υ.gI N c (dG (τ.t s) (i+1))<=_
      rw[m.et];exact g2
    . show TL t (fun F=>pend F (dG (τ.t s) (i+1)))
      rw[m.et];exact g3
theorem yx (υ:St) (m:Mid N L n s d D τ t c) {h:dJ} (hh:ig t c h) (tl:TL t (fun F=>uj h F)) (G:Nat):Less N L (n+1) s d D υ ((if G=0 then 0 else 6*υ.Dn G+7)+υ.dF t c h) (ui N h) (τ.visit s h G):=by
 unfold St.visit
 split
 . exact (uk υ m hh tl 0).le (by omega) (zr _)
 . exact⟨t,c,m.mono (oW _),by show 6*υ.Dn G+7+_<=_;omega,zr _,tl⟩
theorem Ay (υ:St) (m:Mid N L n s d D τ t c) {h:dJ} (hh:ig t c h) (tl:TL t (fun F=>uj h F)) (G mb:Nat):Less N L (n+1) s d D υ (6*υ.Dn G+3+υ.dF t c h+υ.sg N mb) (ui N h) (τ.seen s h G mb):=by
 unfold St.seen
 split
 . exact (uk υ m hh tl G).le (by omega) (zr _)
 . rename_i h0
   exact⟨t,c,m.mono (oW _),zr _,zr _,tl.mono (fun k=>by show uj h k+_<=_;rw[aR h0];exact zr _)⟩
theorem vv (υ:St) (m:Mid N L n s d D τ t c) (tl:TL t (fun _=>0)) (x:Bool) (G head:Nat):Less N L n s d D υ (266+υ.aM t.reads+if x then 0 else υ.st (9+c.op.F) head (3*N+20)) (9*N+1980+if x then 0 else υ.st (9+c.op.F) head 8) (τ.slot s x G head):=by
 unfold St.slot
 by_cases h0:G=0
 . rw[aV h0]
   have m2:=m.take
   cases e:τ.take with
   |mk UT o=>
    rw[e] at m2
    cases o with
    |none=>exact⟨t,c,m2,zz _,by show 6*N+1610<=_;omega,tl⟩
    |some l=>exact⟨t,c,m2.vals _ _,zr _,zr _,tl⟩
 . rw[aR h0]
   exact⟨t,c,m.vals _ _,zr _,zr _,tl⟩
theorem yz (υ:St) (m:Mid N L n s d D τ t c) (tl:TL t (fun _=>0)) (G head at_:Nat):Less N L n s d D υ ((if at_=0 then 266 else 3*υ.Dn at_+270)+υ.aM t.reads+υ.st (9+c.op.F) head (3*N+20)) (9*N+1980+υ.st (9+c.op.F) head 8) (τ.jd s G head at_):=by
 unfold St.jd
 split
 . exact (vv υ m tl false G head).le (by simp) (by simp)
 . exact⟨t,c,m,by show 3*υ.Dn at_+270+_+_<=_;omega,zr _,tl⟩
theorem Az (υ:St) (m:Mid N L n s d D τ t c) (tl:TL t (fun _=>0)) (G:Nat):Less N L (n+1) s d D υ 0 (6*N+1610) (τ.lost G):=by
 unfold St.lost
 split
 . exact⟨t,c,m.give G,zr _,zr _,tl⟩
 . exact⟨t,c,m.mono (oW _),zr _,zr _,tl⟩
theorem TL.take (h:TL t p) (hT:TX N L n t) {F:Nat} (hx:t.cell F=none) (Z:F<64) (x:kP):TL {t with cells:=(F,x)::t.cells,keys:=t.keys++[F]} p:=by
 refine⟨h.mul,?_,fun k hk'=>?_⟩
 . show (t.keys++[F]).Nodup
   rw[List.nodup_append];refine⟨h.kd,by simp,fun a ha b hb e=>?_⟩;simp at hb;subst hb;subst e;obtain⟨y,hy⟩:=hT.ky a ha;rw[hx] at hy
   cases hy
 . have GM:k∈t.keys++[F]:=hk'
   rw[List.mem_append] at GM
   rcases GM with GM|GM
   . exact h.kl k GM
   . simp at GM;subst GM;exact Z
theorem TL.cells (h:TL t p) (l:List (Nat×kP)):TL {t with cells:=l} p:=⟨h.mul,h.kd,h.kl⟩
theorem Ey (υ:St) (m:Mid N L n s d D τ t c) {h:dJ} (tl:TL t (fun F=>uj h F)) (G w:Nat):υ.dw N t c (τ.kG s h G w)<=6*υ.Dn G+6+υ.dF t c h∧υ.gI N c (τ.kG s h G w)<=ui N h∧TL t (fun F=>pend F (τ.kG s h G w)):=by
 unfold St.kG
 split
 . refine⟨?_,zr _,tl⟩
   show 6*υ.Dn G+5+υ.dF t c h+υ.sg N 0<=_;unfold St.sg;rw[aR (fun x=>x.1 rfl)];omega
 split
 . exact⟨by show 6*υ.Dn G+3+_<=_;omega,zr _,tl⟩
 . exact⟨zr _,zr _,tl⟩
end
def mR (N L n s:Nat) (D υ:St) (b B:Nat) (r:St×Option K):Prop:=∃ k d,r.2=some k∧d<=1∧Less N L (n+2) s d D υ b B (r.1,k)
def wt (N:Nat) (D:St) (s:Nat) (k:K):Nat:=3*wa D s k+8*wb D s k+(6*N+10)*wp D s k+(3*N+176)*wh D s k
section
variable {N L n s q cq d b b' B B':Nat} {D τ υ:St} {t:bL} {c:dN} {C:Nat->List Nat} {O O':Nat->Nat} {p p':Nat->Nat}
theorem Less.mono {n':Nat} {r:St×K} (h:Less N L n s d D υ b B r) (hn:n<=n'):Less N L n' s d D υ b B r:=by
 obtain⟨t,c,m,h1,h2,h3⟩:=h;exact⟨t,c,m.mono hn,h1,h2,h3⟩
theorem Less.gK {n':Nat} {r:St×K} (h:Less N L n' s 1 D υ b B r) (hn:n'<=n+2):mR N L n s D υ b B (r.1,some r.2):=⟨r.2,1,rfl,zr _,h.mono hn⟩
theorem mR.ws {r:St×Option K} (h:mR N L n s D D b B r) (w:Ws D υ):mR N L n s D υ b B r:=by
 obtain⟨k,d,h0,h1,t,c,m,h2,h3,h4⟩:=h;exact⟨k,d,h0,h1,t,c,m,by rw[w.dw];exact h2,by rw[w.gI];exact h3,h4⟩
theorem yA {t t2:bL} {h:dJ} (e:t2.reads=t.reads):υ.dF t2 c h=υ.dF t c h:=by
 unfold St.dF;rw[e]
theorem Mid.bind' (m:Mid N L n s d D τ t c) (tq:Nat) (hto:tq<=2000):∃ t2,Mid N L (n+1) s d D (τ.bind s tq) t2 c∧t2.cells=t.cells∧t2.reads=t.reads∧t2.ops=t.ops∧t2.keys=t.keys:=by
 obtain⟨t2,m2,-⟩:=m.bind tq hto;refine⟨t2,m2,?_⟩;have e:(τ.bind s tq).t s=t2:=m2.et;have e2:τ.t s=t:=m.et;unfold St.bind at e;rw[e2] at e
 split at e
 . rw[<-e,e2];exact⟨rfl,rfl,rfl,rfl⟩
 . have:(τ.bK s {t with aP:=t.aP++[tq]}).t s={t with aP:=t.aP++[tq]}:=by
    unfold St.t St.bK;simp only;rw[aS _ _ _ _ (by rw[m.sh.t8];exact m.s8),aV rfl];rfl
   rw[<-e,show ((τ.bK s {t with aP:=t.aP++[tq]}).event _).t s=(τ.bK s {t with aP:=t.aP++[tq]}).t s from rfl,this];exact⟨rfl,rfl,rfl,rfl⟩
theorem TL.kQ {t2:bL} (h:TL t p) (e1:t2.reads=t.reads) (e2:t2.ops=t.ops) (e3:t2.keys=t.keys):TL t2 p:=⟨fun k=>by unfold cnt;rw[e1,e2];exact h.mul k,by rw[e3];exact h.kd,by rw[e3];exact h.kl⟩
theorem pU {i v x:Nat} (h:υ.word i=v):υ.st i v x=0:=aV h
theorem yB {i v x:Nat} (h:υ.word i≠v):υ.st i v x=x:=aR h
set_option maxHeartbeats 3200000 in
theorem MB (hcs:CS N D C O) (m:Mid N L n s 0 D D t c) {k:K} (Z:xU N L t c k) (hpv:Pv N D O s cq k) (tl:TL t (fun F=>pend F k)) (hl:late k=false) (hf:∀ r,k≠.fin r):
 ∃ b B,b<D.dw N t c k∧B+wt N D s k<=D.gI N c k∧mR N L n s D (D.run s k).1 b B (D.run s k):=by
 have et:=m.et;have ec:=m.ec;have hs:=m.sh;have hT:=m.t1;have mt:=m.tick;have hN:=hs.n1;obtain⟨e1,e2⟩:=vk D s k;have hE:=Mw hcs m Z hpv;have gD:TL t (fun _=>0):=tl.mono (fun _=>zz _);have hC:cnt t c.op.F<=12:=by have:=gD.mul c.op.F;have:=hT.op;omega
 have hws:wr D s k=none->Ws D (D.run s k).1:=fun e=>⟨by rw[e1,e];rfl,e2⟩
 have hO:∀ l:Nat,Path N D O cq l->l≠0->D.zo l=D.Dn l+1:=fun l hp=>(hp.zo hN).2
 cases k with
 |fin r=>exact absurd rfl (hf r)
 |start h=>
  refine⟨_,ui N h,?_,zr _,mR.ws (Less.gK (yx D mt Z tl (D.word (9+h.F))) (by omega)) (hws rfl)⟩;show _<D.cost h.F+_;have h1:=hO _ (hcs.path Z.1 cq);unfold St.cost St.Dh
  split
  . omega
  . rename_i h0;have:=h1 h0;omega
 |visit h l=>
  obtain⟨a1,a2,a3⟩:=Ey (τ:=D) D m (h:=h) tl l (D.word (af l 0));exact⟨_,ui N h,by show _<6*D.Dn l+7+_;exact Nat.lt_of_le_of_lt a1 (by omega),zr _,mR.ws (Less.gK (r:=(_,_)) ⟨t,c,mt,zr _,a2,a3⟩ (by omega)) (hws rfl)⟩
 |maker h l id=>
  refine⟨6*D.Dn l+5+D.dF t c h,ui N h,by show _<6*D.Dn l+6+_;omega,zr _,mR.ws ?_ (hws rfl)⟩;simp only[St.run]
  split
  . exact Less.gK (r:=(_,_)) ⟨t,c,mt,by show 6*D.Dn l+3+_<=_;omega,zr _,tl⟩ (by omega)
  split
  . rename_i h2
    refine Less.gK (r:=(_,_)) ⟨t,c,mt,?_,zr _,tl⟩ (by omega);show 6*D.Dn l+5+_+D.sg N id<=_;unfold St.sg;rw[aR (fun x=>by have:=x.2;omega)];exact zr _
  . refine Less.gK (r:=(_,_)) ⟨t,c,mt,?_,zr _,tl⟩ (by omega)
    show 6*D.Dn l+5+_+D.sg N 0<=_;unfold St.sg;rw[aR (fun x=>x.1 rfl)];exact zr _
 |older h l=>
  refine⟨_,ui N h,?_,zr _,mR.ws (Less.gK (yx D mt Z.1 tl (D.word (af l 2))) (by omega)) (hws rfl)⟩;show _<6*D.Dn l+3+_;have h1:=hO _ (hpv.tail Z.2.ne);have h2:D.Dn l=D.zo (D.word (af l 2)):=rfl
  split
  . omega
  . rename_i h0;have:=h1 h0;omega
 |ended h l mb=>
  refine⟨6*D.Dn l+4+D.dF t c h+D.sg N mb,ui N h,by show _<6*D.Dn l+5+_+_;omega,zr _,mR.ws ?_ (hws rfl)⟩;simp only[St.run]
  split
  . exact Less.gK (r:=(_,_)) ⟨t,c,mt,by show 6*D.Dn l+3+_<=_;omega,zr _,tl⟩ (by omega)
  split
  . exact Less.gK ((Ay D mt Z.1 tl l mb).le (by omega) (zr _)) (by omega)
  . exact Less.gK (r:=(_,_)) ⟨t,c,mt,zr _,zr _,tl⟩ (by omega)
 |gW h l mb id=>
  refine⟨6*D.Dn l+3+D.dF t c h+D.sg N mb,ui N h,by show _<6*D.Dn l+4+_+_;omega,zr _,mR.ws ?_ (hws rfl)⟩;simp only[St.run]
  split
  . exact Less.gK (Ay D mt Z.1 tl l mb) (by omega)
  split
  . obtain⟨t2,m2,f1,f2,f3,f4⟩:=mt.bind' id Z.2.2.2
    refine Less.gK (r:=(_,_)) ⟨t2,c,m2,?_,zr _,tl.kQ f2 f3 f4⟩ (by omega);show 6*D.Dn l+3+D.dF t2 c h<=_;rw[yA f2];omega
  . exact Less.gK (r:=(_,_)) ⟨t,c,mt,by show 6*D.Dn l+3+_<=_;omega,zr _,tl⟩ (by omega)
 |seen h l mb=>
  have hmb:mb≠0:=by
   rintro rfl;have h1:=tl.mul 0;have h2:=hT.op;simp only[pend,if_true] at h1;omega
  have Xk:TL t (fun F=>uj h F):=tl.mono (fun k=>by show _<=uj h k+_;omega);refine⟨6*D.Dn l+2+D.dF t c h+D.sg N mb,ui N h,by show _<6*D.Dn l+3+_+_;omega,zr _,mR.ws ?_ (hws rfl)⟩;simp only[St.run]
  split
  . rename_i h4
    refine Less.gK (r:=(_,_)) ⟨t,c,mt,?_,zr _,Xk⟩ (by omega);show D.cost h.F+D.dF t c h<=_;have h1:=(hcs.Dh hN Z.1.1).2;unfold St.sg St.cost;rw[aV ⟨hmb,h4⟩];omega
  . split
    . obtain⟨t2,m2,f1,f2,f3,f4⟩:=mt.bind' mb Z.2.2
      refine Less.gK ((uk D m2 (oN Z.1 f1 f2) (Xk.kQ f2 f3 f4) l).le ?_ (zr _)) (by omega);rw[yA f2];omega
    . exact Less.gK ((uk D mt Z.1 Xk l).le (by omega) (zr _)) (by omega)
 |again en=>
  obtain⟨h1,h2,x,hx,hxo⟩:=Z;have hJ:=hE.iU (zz _) hT.rd hC;refine⟨12+D.aM t.reads,6*N+1613,by show _<14+_;omega,by show _+(3*0+8*1+_*0+_*0)<=6*N+1630;omega,?_⟩;have ex:D.x s c.op.F=x:=by unfold St.x;rw[et,hx];rfl
  have Ce:∀ t2:bL,t2.reads=t.reads->(D.run s (.again en)).1.dw N t2 c (.fin {})<=12+D.aM t.reads:=fun t2 e=>by
   show 12+_<=_;rw[e];have:wh D s (.again en)=0:=rfl;omega
  generalize (D.run s (.again en)).1=υ at Ce;simp only[St.run,ec,ex];have m1:=m.put (iT (w:=1) hxo (by omega) h1 h2);have m2:=m1.bK (qW m1.t1 c.op.F {x with there:=(c.op.kind !=4)} (m.t1.cell hx).1 (m.t1.cell hx).2.1 (fun _=>hxo));have e3:((D.put (af x.own 1) en).c s).op.kind=c.op.kind:=by rw[m1.ec]
  have e4:((D.put (af x.own 1) en).gu s c.op.F {x with there:=(c.op.kind !=4)})=((D.put (af x.own 1) en).bK s {t with cells:=upd t.cells c.op.F {x with there:=(c.op.kind !=4)}}):=by unfold St.gu;rw[m1.et]
  rw[e3,e4]
  split
  . exact Less.gK (r:=(_,_)) ⟨_,c,m2.vals _ _,Ce _ rfl,zr _,gD.cells _⟩ (by omega)
  . exact Less.gK (r:=(_,_)) ⟨_,c,m2,Ce _ rfl,zr _,gD.cells _⟩ (by omega)
 |own l=>
  refine⟨288+D.aM t.reads,9*N+2000,by show _<290+_;omega,zr _,mR.ws ?_ (hws rfl)⟩;simp only[St.run]
  split
  . refine Less.gK (r:=(_,_)) ⟨t,c,mt,?_,zr _,gD⟩ (by omega)
    show 286+_+D.st _ _ 8<=_;rw[pU rfl];omega
  split
  . refine Less.gK (r:=(_,_)) ⟨t,c,mt,?_,zr _,gD⟩ (by omega)
    show 288+_+D.st _ _ 8<=_;rw[pU rfl];exact zr _
  . exact Less.gK (r:=(_,_)) ⟨t,c,mt,zz _,by show 6*N+1610<=_;omega,gD⟩ (by omega)
 |ib l w id=>
  refine⟨286+D.aM t.reads+D.st (af l 1) w 8,9*N+2000,by show _<288+_+_;omega,zr _,mR.ws ?_ (hws rfl)⟩;simp only[St.run]
  split
  . exact Less.gK (r:=(_,_)) ⟨t,c,mt,zz _,by show 6*N+1610<=_;omega,gD⟩ (by omega)
  . exact Less.gK (r:=(_,_)) ⟨t,c,mt,zr _,zr _,gD⟩ (by omega)
 |claim l w=>
  obtain⟨hl',hx,hkk⟩:=Z;have m1:=m.cB (o:=w) (iT (L:=L) (w:=1) hl' (by omega) (nY m.t1) (nX m.t1));have hJ:=hE.iU (zz _) hT.rd hC;have h0:wh D s (.claim l w)=0:=rfl
  by_cases hw:D.word (af l 1)=w
  . have hw1:wb D s (.claim l w)=1:=by simp only[wb];rw[aV hw]
    refine⟨266+D.aM t.reads,9*N+1980,by show _<286+_+_;omega,?_,?_⟩
    . show _+(3*0+8*wb D s (.claim l w)+_*0+_*0)<=9*N+2000
      rw[hw1];omega
    . have hJ2:(D.run s (.claim l w)).1.aM t.reads<=D.aM t.reads:=by omega
      generalize (D.run s (.claim l w)).1=υ at hJ2;simp only[St.run,et];rw[aR (fun x=>x hw)];have m2:=(m1.mono (oW n)).bK (qV m1.t1 c.op.F ⟨0,l,false⟩ (.inl rfl) (.inr hl') (by simp));have e1:(D.cB (af l 1) w (mine t)).bS s ((D.cB (af l 1) w (mine t)).c s).op.F ⟨0,l,false⟩=(D.cB (af l 1) w (mine t)).bK s {t with cells:=(c.op.F,⟨0,l,false⟩)::t.cells,keys:=t.keys++[c.op.F]}:=by
       unfold St.bS;rw[m1.et,m1.ec]
      rw[e1,m2.ec];have Cc:=gD.take hT hx hkk ⟨0,l,false⟩
      split
      . exact Less.gK (r:=(_,_)) ⟨_,c,m2,by show 12+υ.aM t.reads<=_;omega,by show 6*N+1613<=_;omega,Cc⟩ (by omega)
      . exact Less.gK ((vv υ m2 Cc true 0 0).le (by show 266+υ.aM t.reads+0<=_;omega) (by simp)) (by omega)
  . refine⟨290+D.aM t.reads,9*N+2000,?_,?_,mR.ws ?_ (hws ?_)⟩
    . show _<286+_+D.st _ _ 8
      rw[yB hw];omega
    . show _+(3*0+8*wb D s (.claim l w)+_*0+_*0)<=9*N+2000
      have hw1:wb D s (.claim l w)=0:=by simp only[wb];rw[aR hw]
      rw[hw1];omega
    . simp only[St.run,et]
      rw[aV hw];exact Less.gK (r:=(_,_)) ⟨t,c,m1,zr _,zr _,gD⟩ (by omega)
    . simp only[wr];rw[aR hw]
 |fresh l=>
  obtain⟨hl',hx,hkk⟩:=Z;refine⟨_,9*N+1980,?_,zr _,mR.ws (υ:=_) (b:=(if D.word (9+c.op.F)=0 then 266 else 3*D.Dn (D.word (9+c.op.F))+270)+D.aM t.reads+D.st (9+c.op.F) (D.word (9+c.op.F)) (3*N+20)) ?_ (hws rfl)⟩
  . show _<3*D.Dh c.op.F+271+_
    rw[pU rfl];have h1:=hO _ (hcs.path hkk cq);unfold St.Dh
    split
    . omega
    . rename_i h0;have:=h1 h0;omega
  . simp only[St.run,ec]
    exact Less.gK ((yz D mt gD l _ _).le (zr _) (by rw[pU rfl];exact zr _)) (by omega)
 |next l head at_=>
  obtain⟨hl',hh,ha,hx,hkk⟩:=Z;refine⟨_,9*N+1980+D.st (9+c.op.F) head 8,?_,zr _,mR.ws (Less.gK (yz D mt gD l head (D.word (af at_ 2))) (by omega)) (hws rfl)⟩;show _<3*D.Dn at_+268+_+_;have h1:=hO _ (hpv.2.tail ha.ne);have h2:D.Dn at_=D.zo (D.word (af at_ 2)):=rfl
  split
  . omega
  . rename_i h0;have:=h1 h0;omega
 |free l head at_=>
  refine⟨3*D.Dn at_+269+D.aM t.reads+D.st (9+c.op.F) head (3*N+20),9*N+1980+D.st (9+c.op.F) head 8,by show _<3*D.Dn at_+270+_+_;omega,zr _,mR.ws ?_ (hws rfl)⟩;simp only[St.run]
  split
  . exact Less.gK (r:=(_,_)) ⟨t,c,mt,by show 3*D.Dn at_+268+_+_<=_;omega,zr _,gD⟩ (by omega)
  split
  . exact Less.gK ((Az D mt gD l).le (zz _) (by omega)) (by omega)
  . exact Less.gK (r:=(_,_)) ⟨t,c,mt,zr _,zr _,gD⟩ (by omega)
 |dM l head at_ id=>
  refine⟨3*D.Dn at_+268+D.aM t.reads+D.st (9+c.op.F) head (3*N+20),9*N+1980+D.st (9+c.op.F) head 8,by show _<3*D.Dn at_+269+_+_;omega,zr _,mR.ws ?_ (hws rfl)⟩;simp only[St.run]
  split
  . exact Less.gK (r:=(_,_)) ⟨t,c,mt,zr _,zr _,gD⟩ (by omega)
  . exact Less.gK ((Az D mt gD l).le (zz _) (by omega)) (by omega)
 |fB x l head=>
  obtain⟨hl',hkk,hx⟩:=Z;have hJ:=hE.iU (zz _) hT.rd hC;have hH:=(hE.hd c.op.F hkk).resolve_right (by show ¬ (0=1);omega);have h0:wh D s (.fB x l head)=0:=rfl;refine⟨264+D.aM t.reads+if x then 0 else D.st (9+c.op.F) head (3*N+20),9*N+1980+if x then 0 else D.st (9+c.op.F) head 8,by show _<266+_+_;omega,zr _,?_⟩;have MC:(D.run s (.fB x l head)).1.gI N c (.dZ x l head)<=9*N+1980+if x then 0 else D.st (9+c.op.F) head 8:=by
   show 9*N+1980+(if x then 0 else (D.run s (.fB x l head)).1.st _ _ _)<=_;unfold St.st;rw[hH];exact zr _
  have Ce:(D.run s (.fB x l head)).1.dw N t c (.dZ x l head)<=264+D.aM t.reads+if x then 0 else D.st (9+c.op.F) head (3*N+20):=by
   show 264+_+(if x then 0 else (D.run s (.fB x l head)).1.st _ _ _)<=_;unfold St.st;rw[hH];omega
  generalize (D.run s (.fB x l head)).1=υ at Ce MC;simp only[St.run,et];exact Less.gK (r:=(_,_)) ⟨t,c,m.put (iT hl' (by omega) (nY m.t1) (nX m.t1)),Ce,MC,gD⟩ (by omega)
 |dZ x l head=>
  obtain⟨hl',hkk,hx⟩:=Z;have hJ:=hE.iU (zz _) hT.rd hC;have hH:=(hE.hd c.op.F hkk).resolve_right (by show ¬ (0=1);omega);have h0:wh D s (.dZ x l head)=0:=rfl;refine⟨262+D.aM t.reads+if x then 0 else D.st (9+c.op.F) head (3*N+20),9*N+1972+(if x then 0 else D.st (9+c.op.F) head 8),by show _<264+_+_;omega,by show _+(3*0+8*1+_*0+_*0)<=9*N+1980+(if x then 0 else D.st (9+c.op.F) head 8);omega,?_⟩;have MC:(D.run s (.dZ x l head)).1.gI N c (if x then .over l else .push l head)<=9*N+1972+(if x then 0 else D.st (9+c.op.F) head 8):=by
   cases x with
   |true=>show 9*N+1970+0<=_;omega
   |false=>
    show 9*N+1972+(D.run s (.dZ false l head)).1.st _ _ _<=_;unfold St.st;rw[hH];exact zr _
  have Ce:(D.run s (.dZ x l head)).1.dw N t c (if x then .over l else .push l head)<=262+D.aM t.reads+if x then 0 else D.st (9+c.op.F) head (3*N+20):=by
   cases x with
   |true=>show 262+_<=_;omega
   |false=>
    show 260+_+(D.run s (.dZ false l head)).1.st _ _ _<=_;unfold St.st;rw[hH];simp only[Bool.false_eq_true,if_false];omega
  generalize (D.run s (.dZ x l head)).1=υ at Ce MC;simp only[St.run];refine Less.gK (r:=(_,_)) ⟨t,c,m.put (iT hl' (by omega) (by decide) uh),Ce,MC,?_⟩ (by omega)
  cases x<;>exact gD
 |push l head=>
  obtain⟨hl',hh,hx,hkk⟩:=Z;have hJ:=hE.iU (zz _) hT.rd hC;have hH:=(hE.hd c.op.F hkk).resolve_right (by show ¬ (0=1);omega);have h0:wh D s (.push l head)=0:=rfl;refine⟨256+D.aM t.reads+D.st (9+c.op.F) head (3*N+20),9*N+1972+D.st (9+c.op.F) head 8,by show _<260+_+_;omega,zr _,Less.gK (r:=(_,_)) ⟨t,c,m.put (pM hl' hh),?_,?_,gD⟩ (by omega)⟩
  . show 256+_+(D.run s (.push l head)).1.st _ _ _<=_
    unfold St.st;rw[hH];omega
  . show 9*N+1972+(D.run s (.push l head)).1.st _ _ _<=_
    unfold St.st;rw[hH];exact zr _
 |dL l head=>
  obtain⟨hl',hh,hx,hkk⟩:=Z;have m1:=m.cB (o:=head) (pO (L:=L) hkk (.inr hl'))
  by_cases hw:D.word (9+c.op.F)=head
  . have hw1:wh D s (.dL l head)=1:=by simp only[wh];rw[ec,aV hw]
    have hJ:=hE.iU (by omega) hT.rd hC;refine⟨84+D.aM t.reads,6*N+1613,by show _<256+_+_;omega,?_,?_⟩
    . show _+(3*0+8*0+_*0+(3*N+176)*wh D s (.dL l head))<=9*N+1972+_
      rw[hw1];omega
    . rw[hw1] at hJ
      have hJ2:(D.run s (.dL l head)).1.aM t.reads<=D.aM t.reads+72:=by omega
      generalize (D.run s (.dL l head)).1=υ at hJ2;simp only[St.run,ec];rw[aR (fun x=>x hw)];have m2:=(m1.mono (oW n)).bK (qV m1.t1 c.op.F ⟨l,0,true⟩ (.inr hl') (.inl rfl) (fun _=>hl'));have e1:(D.cB (9+c.op.F) head l).bS s c.op.F ⟨l,0,true⟩=(D.cB (9+c.op.F) head l).bK s {t with cells:=(c.op.F,⟨l,0,true⟩)::t.cells,keys:=t.keys++[c.op.F]}:=by
       unfold St.bS;rw[m1.et]
      rw[e1];exact Less.gK (r:=(_,_)) ⟨_,c,m2,by show 12+υ.aM t.reads<=_;omega,zr _,gD.take hT hx hkk ⟨l,0,true⟩⟩ (by omega)
  . refine⟨3*N+271+D.aM t.reads,9*N+1980,?_,?_,mR.ws ?_ (hws ?_)⟩
    . show _<256+_+D.st _ _ _
      rw[yB hw];omega
    . show _+(3*0+8*0+_*0+(3*N+176)*wh D s (.dL l head))<=9*N+1972+D.st _ _ 8
      have hw1:wh D s (.dL l head)=0:=by simp only[wh];rw[ec,aR hw]
      rw[hw1,yB hw];omega
    . simp only[St.run,ec]
      rw[aV hw];refine Less.gK (r:=(_,_)) ⟨t,c,m1,?_,?_,gD⟩ (by omega)
      . have:=(hcs.Dh hN hkk).2
        show 3*D.Dh c.op.F+271+_<=_;omega
      . exact zr _
    . simp only[wr];rw[ec,aR hw]
 |over l=>
  refine⟨260+D.aM t.reads,9*N+1970,by show _<262+_;omega,zr _,mR.ws ?_ (hws rfl)⟩;simp only[St.run,ec];refine Less.gK (r:=(_,_)) ⟨t,c,mt,?_,zr _,gD⟩ (by omega);show 260+_+D.st _ _ 8<=_;rw[pU rfl];exact zr _
 |iq l head=>
  obtain⟨hl',hh,hx,hkk⟩:=Z;have hJ:=hE.iU (zz _) hT.rd hC;have hH:=(hE.hd c.op.F hkk).resolve_right (by show ¬ (0=1);omega);have h0:wh D s (.iq l head)=0:=rfl;refine⟨256+D.aM t.reads+D.st (9+c.op.F) head 8,9*N+1970,by show _<260+_+_;omega,zr _,Less.gK (r:=(_,_)) ⟨t,c,m.put (pM hl' hh),?_,zr _,gD⟩ (by omega)⟩;show 256+_+(D.run s (.iq l head)).1.st _ _ _<=_;unfold St.st;rw[hH];omega
 |dQ l head=>
  obtain⟨hl',hh,hx,hkk⟩:=Z;have m1:=m.cB (o:=head) (pO (L:=L) hkk (.inr hl'))
  by_cases hw:D.word (9+c.op.F)=head
  . have hw1:wh D s (.dQ l head)=1:=by simp only[wh];rw[ec,aV hw]
    have hJ:=hE.iU (by omega) hT.rd hC;refine⟨84+D.aM t.reads,6*N+1613,by show _<256+_+_;omega,?_,?_⟩
    . show _+(3*0+8*0+_*0+(3*N+176)*wh D s (.dQ l head))<=9*N+1970
      rw[hw1];omega
    . rw[hw1] at hJ
      have hJ2:(D.run s (.dQ l head)).1.aM t.reads<=D.aM t.reads+72:=by omega
      generalize (D.run s (.dQ l head)).1=υ at hJ2;obtain⟨x,hx⟩:=uz.1 hx;simp only[St.run,ec];rw[aR (fun x=>x hw)];have ex:(D.cB (9+c.op.F) head l).x s c.op.F=x:=by unfold St.x;rw[m1.et,hx];rfl
      rw[ex];have m2:=m1.bK (qW m1.t1 c.op.F {x with own:=l,there:=true} (.inr hl') (m.t1.cell hx).2.1 (fun _=>hl'));have e4:(D.cB (9+c.op.F) head l).gu s c.op.F {x with own:=l,there:=true}=(D.cB (9+c.op.F) head l).bK s {t with cells:=upd t.cells c.op.F {x with own:=l,there:=true}}:=by unfold St.gu;rw[m1.et]
      rw[e4];exact Less.gK (r:=(_,_)) ⟨_,c,m2,by show 12+υ.aM t.reads<=_;omega,zr _,gD.cells _⟩ (by omega)
  . refine⟨262+D.aM t.reads,9*N+1970,?_,?_,mR.ws ?_ (hws ?_)⟩
    . show _<256+_+D.st _ _ _
      rw[yB hw];omega
    . show _+(3*0+8*0+_*0+(3*N+176)*wh D s (.dQ l head))<=9*N+1970
      have hw1:wh D s (.dQ l head)=0:=by simp only[wh];rw[ec,aR hw]
      rw[hw1];omega
    . simp only[St.run,ec]
      rw[aV hw];exact Less.gK (r:=(_,_)) ⟨t,c,m1,zr _,zr _,gD⟩ (by omega)
    . simp only[wr];rw[ec,aR hw]
 |draw=>
  refine⟨9+D.aM t.reads,6*N+1613,by show _<10+_;omega,zr _,mR.ws ?_ (hws rfl)⟩;simp only[St.run]
  split
  . exact Less.gK (r:=(_,_)) ⟨t,c,mt,zz _,by show 6*N+1610<=_;omega,gD⟩ (by omega)
  split
  . refine Less.gK (r:=(_,_)) ⟨t,c,mt,?_,zr _,gD⟩ (by omega)
    show 8+_+D.st _ _ 3<=_;rw[pU rfl];omega
  . refine Less.gK (r:=(_,_)) ⟨t,c,mt,?_,zr _,gD⟩ (by omega)
    show 9+_+D.st _ _ 3<=_;rw[pU rfl];exact zr _
 |ed w now=>
  obtain⟨h1,h2,h3,h4⟩:=Z;have hJ:=hE.iU (zz _) hT.rd hC;have hK:=hE.ck.resolve_right (by show ¬ (0=1);omega);have h0:wh D s (.ed w now)=0:=rfl;refine⟨8+D.aM t.reads+D.st 0 w 3,6*N+1613,by show _<9+_+_;omega,zr _,Less.gK (r:=(_,_)) ⟨t,c,m.dx h4,?_,zr _,gD⟩ (by omega)⟩;show 8+_+(D.run s (.ed w now)).1.st _ _ _<=_;unfold St.st;rw[hK];omega
 |turn w now=>
  have PI:now<L:=Z;have m1:=m.cB (o:=w) (xX (L:=L) (x:=now+1) (id:=t.id) (N:=N) (by omega) hs.l1 hT.i2)
  by_cases hw:D.word 0=w
  . have hJ:=hE.iU (zz _) hT.rd hC
    have h0:wh D s (.turn w now)=0:=rfl;have hw1:wa D s (.turn w now)=1:=by simp only[wa];rw[aV hw]
    refine⟨1+D.aM t.reads,6*N+1610,by show _<8+_+_;omega,?_,?_⟩
    . show _+(3*wa D s (.turn w now)+8*0+_*0+_*0)<=6*N+1613
      rw[hw1];omega
    . have hJ2:(D.run s (.turn w now)).1.aM t.reads<=D.aM t.reads:=by omega
      generalize (D.run s (.turn w now)).1=υ at hJ2;simp only[St.run,et];rw[aR (fun x=>x hw),m1.et];have Kt:TX N L n {t with aA:=now+1}:=⟨hT.i1,hT.i2,hT.op,hT.bg,by show now+1<=L;omega,hT.ce,hT.ky,hT.kn,hT.rd,hT.rn,hT.bd,hT.bn⟩
      exact Less.gK (r:=(_,_)) ⟨_,c,(m1.bK Kt).event _ (zz _),by show 1+υ.aM t.reads<=_;omega,zr _,⟨gD.mul,gD.kd,gD.kl⟩⟩ (by omega)
  . refine⟨10+D.aM t.reads,6*N+1613,?_,?_,mR.ws ?_ (hws ?_)⟩
    . show _<8+_+D.st _ _ _
      rw[yB hw];omega
    . show _+(3*wa D s (.turn w now)+8*0+_*0+_*0)<=6*N+1613
      have hw1:wa D s (.turn w now)=0:=by simp only[wa];rw[aR hw]
      rw[hw1];omega
    . simp only[St.run,et]
      rw[aV hw];exact Less.gK (r:=(_,_)) ⟨t,c,m1,zr _,zr _,gD⟩ (by omega)
    . simp only[wr];rw[aR hw]
 |dR=>
  have hJ:=hE.iU (zz _) hT.rd hC;have h0:wh D s .dR=0:=rfl;refine⟨D.aM t.reads,6*N+1610,by show _<1+_;omega,zr _,?_⟩;have hJ2:(D.run s .dR).1.aM t.reads<=D.aM t.reads:=by omega
  generalize (D.run s .dR).1=υ at hJ2;simp only[St.run,et];have m1:=m.dx (w:=aW t.aA t.id) (by have:=hT.en;have:=hT.i2;unfold ai aW;omega);rw[m1.et];obtain⟨g1,g2,g3⟩:=vS (c:=c) υ hT (i:=0) (zz _) gD;exact Less.gK (r:=(_,_)) ⟨t,c,m1,gy g1 hJ2,g2,g3⟩ (by omega)
 |wait i=>cases hl
 |cZ=>cases hl
 |abort e r=>cases hl
 |turns l r=>cases hl
end
structure Stp (N L n s:Nat) (D aH:St) (kd:Nat) (r:oZ) (t:bL) (c:dN) (k:K) (aD:St) (ok:Option K) (t2:bL) (c2:dN):Prop where
 tx:D.aj.getD s none=some t
 ca:D.calls.getD s none=some c
 ck:c.k=some k
 ov:c.over=false
 ro:c.r.over=0
 Cv:xU N L t {c with waits:=false} k
 m:Mid N L n s 0 (D.aK s {c with waits:=false}) (D.aK s {c with waits:=false}) t {c with waits:=false}
 run:(D.aK s {c with waits:=false}).run s k=(aD,ok)
 m2:∃ d,Mid N L (n+2) s d (D.aK s {c with waits:=false}) aD t2 c2
 e1:∃ l cs ts tl,aH={aD with aI:=l,calls:=cs,aj:=ts,aT:=tl}
 oc:∀ q,q≠s->aH.calls.getD q none=D.calls.getD q none
 ox:∀ q,q≠s->aH.aj.getD q none=D.aj.getD q none
 go:∀ k',ok=some k'->kd=(if c2.waits then 2 else 1)∧r={}∧aH.calls.getD s none=some {c2 with k:=some k'}∧aH.aj.getD s none=some t2∧aH.aT=aD.aT
 no:ok=none->kd=3∧r=c2.r∧aH.calls.getD s none=none∧((c2.r.over=0∧aH.aj.getD s none=some t2∧aH.aT=aD.aT++[{kind:=2,t:=t2.id,op:=c2.op,res:=c2.r}])∨(c2.r.over≠0∧aH.aj.getD s none=none∧aH.aT=aD.aT))
section
variable {N L n s q cq d:Nat} {D τ υ aH:St} {t:bL} {c:dN} {kd:Nat} {r:oZ}
theorem WF.parts (h:WF N L n D) (hs:s<8) (hst:jg D s=some (aH,kd,r)):∃ t c k aD ok t2 c2,Stp N L n s D aH kd r t c k aD ok t2 c2:=by
 unfold jg at hst
 split at hst
 . rename_i t0 c ht hc
   split at hst
   . rename_i k0 hk0
     obtain⟨t,k,Z,ht2,m,ho,hr,hkk⟩:=h.mid hs hc;rw[hk0] at Z;obtain rfl:=zj Z;obtain⟨d,hd,wy⟩:=BN m ho hr rfl hkk
     split at hst
     rename_i aD ok e;rw[e] at wy
     split at hst
     . rename_i c2 hc2
       split at hst
       . rename_i hcond
         have hoth:=si hcond.2.1;have hmid:∃ t2,Mid N L (n+2) s d (D.aK s {c with waits:=false}) aD t2 c2:=by
          cases ok with
          |none=>
           obtain⟨t2,c2',m2,-⟩:=wy;have e1:=m2.ca;simp only at e1;rw[hc2] at e1;obtain rfl:=zj e1;exact⟨t2,m2⟩
          |some k'=>
           obtain⟨t2,c2',m2,-⟩:=wy;have e1:=m2.ca;simp only at e1;rw[hc2] at e1;obtain rfl:=zj e1;exact⟨t2,m2⟩
         obtain⟨t2,m2⟩:=hmid;have sH:s<aD.calls.length:=by rw[m2.sh.c8];exact hs
         have wu:s<aD.aj.length:=by rw[m2.sh.t8];exact hs
         have hset:∀ (x:Option dN) q,(aD.calls.set s x).getD q none=if q=s then x else aD.calls.getD q none:=fun x q=>aS _ _ _ _ sH
         have hox:∀ q,q≠s->aD.aj.getD q none=D.aj.getD q none:=fun q hq=>m2.ox q hq
         refine⟨t,c,k0,aD,ok,t2,c2,?_⟩;unfold ll at hst
         split at hst
         . rename_i k'
           split at hst
           . obtain⟨rfl,ME⟩:=iQ _ _ _ _ ▸ zj hst
             obtain⟨rfl,rfl⟩:=iQ _ _ _ _ ▸ ME;refine⟨ht2,hc,hk0,ho,hr,hkk,m,e,⟨d,m2⟩,⟨_,_,_,_,rfl⟩,fun q hq=>?_,fun q hq=>hox q hq,fun k'' e=>?_,fun e=>by cases e⟩
             . show (aD.calls.set s _).getD q none=_
               rw[hset,aR hq];exact hoth q hq
             . obtain rfl:=zj e
               refine⟨rfl,rfl,?_,m2.tx,rfl⟩;show (aD.calls.set s _).getD s none=_;rw[hset,aV rfl]
           . cases hst
         . split at hst
           . split at hst
             . rename_i ho0
               split at hst
               . rename_i t2' UY
                 rw[m2.tx] at UY;obtain rfl:=zj UY
                 split at hst
                 . obtain⟨rfl,ME⟩:=iQ _ _ _ _ ▸ zj hst
                   obtain⟨rfl,rfl⟩:=iQ _ _ _ _ ▸ ME;refine⟨ht2,hc,hk0,ho,hr,hkk,m,e,⟨d,m2⟩,⟨_,_,_,_,rfl⟩,fun q hq=>?_,fun q hq=>hox q hq,fun k'' e=>(by cases e),fun e=>⟨rfl,rfl,?_,.inl ⟨ho0,m2.tx,rfl⟩⟩⟩
                   . show ((aD.calls.set s _).set s none).getD q none=_
                     rw[aS _ _ _ _ (by rw[rz];exact sH),aR hq,hset,aR hq];exact hoth q hq
                   . show ((aD.calls.set s _).set s none).getD s none=_
                     rw[aS _ _ _ _ (by rw[rz];exact sH),aV rfl]
                 . cases hst
               . cases hst
             . rename_i ho0
               split at hst
               . obtain⟨rfl,ME⟩:=iQ _ _ _ _ ▸ zj hst
                 obtain⟨rfl,rfl⟩:=iQ _ _ _ _ ▸ ME;refine⟨ht2,hc,hk0,ho,hr,hkk,m,e,⟨d,m2⟩,⟨_,_,_,_,rfl⟩,fun q hq=>?_,fun q hq=>?_,fun k'' e=>(by cases e),fun e=>⟨rfl,rfl,?_,.inr ⟨ho0,?_,rfl⟩⟩⟩
                 . show ((aD.calls.set s _).set s none).getD q none=_
                   rw[aS _ _ _ _ (by rw[rz];exact sH),aR hq,hset,aR hq];exact hoth q hq
                 . show (aD.aj.set s none).getD q none=_
                   rw[aS _ _ _ _ wu,aR hq];exact hox q hq
                 . show ((aD.calls.set s _).set s none).getD s none=_
                   rw[aS _ _ _ _ (by rw[rz];exact sH),aV rfl]
                 . show (aD.aj.set s none).getD s none=_
                   rw[aS _ _ _ _ wu,aV rfl]
               . cases hst
           . cases hst
       . cases hst
     . cases hst
   . cases hst
 . cases hst
end
end Go.Proofs.YthicolbbmjfkfaaGreat.Em.Cw
