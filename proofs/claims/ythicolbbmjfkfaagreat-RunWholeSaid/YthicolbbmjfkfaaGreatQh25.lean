import Derived.Test.YthicolbbmjfkfaaGreatQh24
set_option linter.unusedVariables false
set_option linter.unusedSimpArgs false
set_option maxRecDepth 100000
set_option maxHeartbeats 1600000
namespace Go.Proofs.YthicolbbmjfkfaaGreat.Em.Cw
open En
/- How far it is tq a call's end:what is left,and what may be turned yet. -/
def CV (D:St):Nat->Nat->Nat
 |0,_=>0
 |m+1,l=>if l=0 then 0 else CV D m (D.word (af l 2))+1
def _root_.Go.Proofs.YthicolbbmjfkfaaGreat.En.St.zp (D:St) (l:Nat):Nat:=CV D 300 l
def _root_.Go.Proofs.YthicolbbmjfkfaaGreat.En.St.Dh (D:St) (E:Nat):Nat:=D.zp (D.word (9+E))
def _root_.Go.Proofs.YthicolbbmjfkfaaGreat.En.St.Dn (D:St) (l:Nat):Nat:=D.zp (D.word (af l 2))
section
variable {N L n s q d:Nat} {D τ υ:St} {t:bB} {c:dF} {C:Nat->List Nat} {O O':Nat->Nat}
theorem iY.fn:∀ {ls ls':List Nat} {h:Nat},iY D h ls->iY D h ls'->ls=ls':=by
 intro ls
 induction ls with
 |nil=>
  intro ls' h a b
  cases ls' with
  |nil=>rfl
  |cons l ls'=>exact absurd a (by rw[b.1];exact b.2.1)
 |cons l ls ih=>
  intro ls' h a b
  cases ls' with
  |nil=>exact absurd b (by rw[a.1];exact a.2.1)
  |cons l' ls'=>
   have e:l=l':=a.1.symm.trans b.1;subst e;rw[ih a.2.2 b.2.2]
theorem iY.nodup:∀ {ls:List Nat} {h:Nat},iY D h ls->(ls.map aj).Nodup:=by
 intro ls
 induction ls with
 |nil=>intro h _;exact List.nodup_nil
 |cons l ls ih=>
  intro h a;rw[List.map_cons,List.nodup_cons];refine⟨fun hm=>?_,ih a.2.2⟩;obtain⟨x,hx,e⟩:=List.mem_map.1 hm;obtain⟨pre,post,e1,e2⟩:=a.2.2.split hx;have ew:af x 2=af l 2:=by unfold af;rw[e]
  rw[ew] at e2;have:=iY.fn a.2.2 e2;rw[e1] at this;have:=congrArg List.length this;simp at this;omega
theorem CW:∀ (m:Nat) (ls:List Nat) (h:Nat),iY D h ls->ls.length<=m->CV D m h=ls.length:=by
 intro m
 induction m with
 |zero=>
  intro ls h _ hm
  cases ls with
  |nil=>rfl
  |cons l ls=>simp at hm
 |succ m ih=>
  intro ls h hc hm;unfold CV
  cases ls with
  |nil=>rw[aV (show h=0 from hc)];rfl
  |cons l ls=>
   obtain⟨e1,e2,e3⟩:=hc;subst e1;rw[aX e2,ih ls _ e3 (by simp at hm;omega)];rfl
theorem iR {ls:List Nat} {h:Nat} (hN:N<=256) (hc:iY D h ls) (hl:∀ x∈ls,LK N x):ls.length<=N∧D.zp h=ls.length:=by
 have := Hg N _ hc.nodup (fun x hx => by
   obtain⟨l,hl',rfl⟩:=List.mem_map.1 hx
   exact (hl l hl').aj)
 rw[List.length_map] at this;exact⟨this,CW _ _ _ hc (by omega)⟩
theorem Path.zp (hN:N<=256) {l:Nat} (h:Path N D O q l):D.zp l<=N∧(l≠0->D.zp l=D.Dn l+1):=by
 obtain⟨ls,h1,h2⟩:=h;obtain⟨a,b⟩:=iR hN h1 (fun x hx=>(h2 x hx).1);refine⟨by omega,fun hn=>?_⟩
 cases ls with
 |nil=>exact absurd h1 hn
 |cons x ls=>
  obtain⟨e1,e2,e3⟩:=h1;subst e1;have:=(iR hN e3 (fun x hx=>(h2 x (pq _ hx)).1)).2;unfold St.Dn;rw[this,b];rfl
theorem Path.U5 (hN:N<=256) {l:Nat} (h:Path N D O q l) (hw:∀ x,LK N x->(1<=O (aj x)∧O (aj x)<=64)∨O (aj x)=200->τ.word (af x 2)=D.word (af x 2)):τ.zp l=D.zp l∧(l≠0->τ.Dn l=D.Dn l):=by
 obtain⟨ls,h1,h2⟩:=h;have V:∀ x∈ls,LK N x:=fun x hx=>(h2 x hx).1
 have Jr:∀ x∈ls,τ.word (af x 2)=D.word (af x 2):=fun x hx=>hw x (h2 x hx).1 ((h2 x hx).2.imp id (·.1))
 refine⟨((iR hN (h1.nQ Jr) V).2).trans (iR hN h1 V).2.symm,fun hn=>?_⟩
 cases ls with
 |nil=>exact absurd h1 hn
 |cons x ls=>
  obtain⟨e1,e2,e3⟩:=h1;subst e1;unfold St.Dn;rw[Jr l lJ];have hk':∀ x∈ls,LK N x:=fun x hx=>V x (pq _ hx)
  exact ((iR hN (e3.nQ (fun x hx=>Jr x (pq _ hx))) hk').2).trans (iR hN e3 hk').2.symm
theorem CS.Dh (h:CS N D C O) (hN:N<=256) {E:Nat} (V:E<64):D.Dh E=(C E).length∧D.Dh E<=N:=by
 obtain⟨a,b⟩:=iR hN (h.ch E V) (fun l hl=>(h.lo E V l hl).1);unfold St.Dh;exact⟨b,by omega⟩
end
def _root_.Go.Proofs.YthicolbbmjfkfaaGreat.En.St.cost (D:St) (E:Nat):Nat:=2+6*D.Dh E
def _root_.Go.Proofs.YthicolbbmjfkfaaGreat.En.St.aI (D:St) (l:List (Nat×Nat×Bool)):Nat:=(l.map fun r=>D.cost r.1).sum
def _root_.Go.Proofs.YthicolbbmjfkfaaGreat.En.St.iH (D:St):Nat->Nat->Nat
 |0,_=>0
 |n+1,k=>2*D.cost k+D.iH n (k+1)
def _root_.Go.Proofs.YthicolbbmjfkfaaGreat.En.St.dx (D:St) (t:bB) (c:dF) (h:dw):Nat:=
 match h.thn with
 |.get=>20+D.cost h.E+D.aI t.reads
 |.scan k=>20+D.cost h.E+D.iH (c.op.hi - k) (k+1)+D.aI t.reads
 |.change=>400+D.cost h.E+D.aI t.reads
 |.judge i _=>D.aI (t.reads.drop (i+1))
def _root_.Go.Proofs.YthicolbbmjfkfaaGreat.En.St.sg (D:St) (N mb:Nat):Nat:=if mb≠0∧bA (D.word (D.place mb))=4 then 6*N+10 else 0
def _root_.Go.Proofs.YthicolbbmjfkfaaGreat.En.St.st (D:St) (i v x:Nat):Nat:=if D.word i=v then 0 else x
def late:K->Bool
 |.wait _|.bO|.abort _ _|.turns _ _=>true
 |_=>false
def _root_.Go.Proofs.YthicolbbmjfkfaaGreat.En.St.bV (D:St) (N:Nat) (t:bB) (c:dF):K->Nat
 |.fin _=>12+D.aI t.reads
 |.start h=>D.cost h.E+D.dx t c h
 |.visit h l=>6*D.Dn l+7+D.dx t c h
 |.maker h l _=>6*D.Dn l+6+D.dx t c h
 |.ended h l mb=>6*D.Dn l+5+D.dx t c h+D.sg N mb
 |.eY h l mb _=>6*D.Dn l+4+D.dx t c h+D.sg N mb
 |.seen h l mb=>6*D.Dn l+3+D.dx t c h+D.sg N mb
 |.older h l=>6*D.Dn l+3+D.dx t c h
 |.again _=>14+D.aI t.reads
 |.own _=>290+D.aI t.reads
 |.fG F w _=>288+D.aI t.reads+D.st (af F 1) w 8
 |.claim F w=>286+D.aI t.reads+D.st (af F 1) w 8
 |.fresh _=>3*D.Dh c.op.E+271+D.aI t.reads
 |.free _ head a=>3*D.Dn a+270+D.aI t.reads+D.st (9+c.op.E) head (3*N+20)
 |.dB _ head a _=>3*D.Dn a+269+D.aI t.reads+D.st (9+c.op.E) head (3*N+20)
 |.next _ head a=>3*D.Dn a+268+D.aI t.reads+D.st (9+c.op.E) head (3*N+20)
 |.dX x _ head=>266+D.aI t.reads+if x then 0 else D.st (9+c.op.E) head (3*N+20)
 |.dM x _ head=>264+D.aI t.reads+if x then 0 else D.st (9+c.op.E) head (3*N+20)
 |.push _ head=>260+D.aI t.reads+D.st (9+c.op.E) head (3*N+20)
 |.dC _ head=>256+D.aI t.reads+D.st (9+c.op.E) head (3*N+20)
 |.over _=>262+D.aI t.reads
 |.fU _ head=>260+D.aI t.reads+D.st (9+c.op.E) head 8
 |.dI _ head=>256+D.aI t.reads+D.st (9+c.op.E) head 8
 |.draw=>10+D.aI t.reads
 |.dJ w _=>9+D.aI t.reads+D.st 0 w 3
 |.turn w _=>8+D.aI t.reads+D.st 0 w 3
 |.dD=>1+D.aI t.reads
 |.wait _=>0
 |.bO=>0
 |.abort _ _=>0
 |.turns _ _=>0
def qM (N:Nat) (h:dw):Nat:=
 match h.thn with
 |.change=>9*N+2000
 |.judge _ _=>6*N+1610
 |_=>6*N+1613
def fM (N:Nat):K->Nat
 |.start h|.visit h _|.maker h _ _|.ended h _ _|.eY h _ _ _|.seen h _ _|.older h _=>qM N h
 |.fin _|.draw|.dJ _ _|.turn _ _=>6*N+1613
 |.dD|.wait _|.bO|.abort _ _=>6*N+1610
 |.again _=>6*N+1630
 |.own _|.fG _ _ _|.claim _ _=>9*N+2000
 |.fresh _|.next _ _ _|.free _ _ _|.dB _ _ _ _|.dX _ _ _|.dM _ _ _=>9*N+1980
 |.push _ _|.dC _ _=>9*N+1972
 |.over _|.fU _ _|.dI _ _=>9*N+1970
 |.turns l _=>8*l.length
def _root_.Go.Proofs.YthicolbbmjfkfaaGreat.En.St.xs (D:St) (c:dF):K->Nat
 |.next _ head _|.free _ head _|.dB _ head _ _|.push _ head|.dC _ head=>D.st (9+c.op.E) head 8
 |.dX x _ head|.dM x _ head=>if x then 0 else D.st (9+c.op.E) head 8
 |_=>0
def _root_.Go.Proofs.YthicolbbmjfkfaaGreat.En.St.fM (D:St) (N:Nat) (c:dF) (k:K):Nat:=Cw.fM N k+D.xs c k
def _root_.Go.Proofs.YthicolbbmjfkfaaGreat.En.St.rem (D:St) (N s:Nat):Nat:=
 match D.ag.getD s none with
 |none=>0
 |some t=>
  match D.calls.getD s none with
  |none=>11+D.aI t.reads
  |some c=>match c.k with|some k=>D.bV N t c k|none=>0
def _root_.Go.Proofs.YthicolbbmjfkfaaGreat.En.St.D7 (D:St) (N s:Nat):Nat:=
 match D.ag.getD s none with
 |none=>0
 |some t=>
  match D.calls.getD s none with
  |none=>6*N+1613
  |some c=>match c.k with|some k=>D.fM N c k|none=>0
def _root_.Go.Proofs.YthicolbbmjfkfaaGreat.En.St.late (D:St) (s:Nat):Bool:=
 match D.calls.getD s none with
 |some c=>match c.k with|some k=>Cw.late k|none=>false
 |none=>false
def wr (D:St) (s:Nat):K->Option (Nat×Nat)
 |.again e=>some (af (D.x s (D.c s).op.E).own 1,e)
 |.claim F w=>if D.word (af F 1)=w then some (af F 1,mine (D.t s)) else none
 |.dX _ l _=>some (af l 0,mine (D.t s))
 |.dM _ l _=>some (af l 1,ever)
 |.push l h|.fU l h=>some (af l 2,h)
 |.dC l h|.dI l h=>if D.word (9+(D.c s).op.E)=h then some (9+(D.c s).op.E,l) else none
 |.dJ w _=>if D.word (D.place (aT w))=pack 1 0 then some (D.place (aT w),pack 2 (ai w)) else none
 |.turn w now=>if D.word 0=w then some (0,aO (now+1) (D.t s).id) else none
 |.dD=>if D.word (D.place (aT (aO (D.t s).ax (D.t s).id)))=pack 1 0 then some (D.place (aT (aO (D.t s).ax (D.t s).id)),pack 2 (ai (aO (D.t s).ax (D.t s).id))) else none
 |.bO=>some (D.place (D.t s).id,pack 3 (D.t s).ax)
 |.abort _ _=>some (D.place (D.t s).id,pack 4 (D.t s).ax)
 |.turns [] _=>some (1+s,0)
 |.turns (x::_) _=>if x.old=0∨D.word x.at_=x.old then some (x.at_,x.new) else none
 |_=>none
def setW (D:St) (o:Option (Nat×Nat)):List Nat:=match o with|none=>D.words|some (i,v)=>D.words.set i v
section
variable {N L n s q d:Nat} {D τ υ:St} {t:bB} {c:dF} {C:Nat->List Nat} {O O':Nat->Nat}
def Ws (D τ:St):Prop:=τ.words=D.words∧τ.aC=D.aC
theorem Ws.refl (D:St):Ws D D:=⟨rfl,rfl⟩
theorem Ws.trans (a:Ws D τ) (b:Ws τ υ):Ws D υ:=⟨b.1.trans a.1,b.2.trans a.2⟩
theorem Hu (s:Nat):∀ (k:Nat) (τ:St) (E:Nat),Ws τ (fA s k τ E).1:=by
 intro k
 induction k with
 |zero=>intro τ E;exact Ws.refl τ
 |succ k ih=>
  intro τ E;unfold fA
  split
  . exact Ws.refl τ
  . split
    . split
      . exact Ws.trans ⟨rfl,rfl⟩ (ih _ _)
      . exact ih _ _
    . exact Ws.refl τ
theorem yO (s:Nat) (τ:St) (E:Nat):Ws τ (τ.scan s E).1:=Hu s _ τ E
theorem Ws.pre (b:Ws τ υ) (a:Ws D τ):Ws D υ:=a.trans b
theorem yP (s:Nat) (τ:St) (h:dw) (F:Nat):Ws τ (τ.thn s h F).1:=by
 unfold St.thn
 split
 . simp only;split<;>exact⟨rfl,rfl⟩
 . simp only
   split
   . exact Ws.pre (yO s _ _) ⟨rfl,rfl⟩
   . exact Ws.pre (yO s _ _) ⟨rfl,rfl⟩
 . simp only
   split
   . exact⟨rfl,rfl⟩
   . split
     . exact⟨rfl,rfl⟩
     . split<;>exact⟨rfl,rfl⟩
 . try simp only
   split<;>exact⟨rfl,rfl⟩
theorem Bn (s:Nat) (τ:St) (h:dw) (F:Nat):Ws τ (τ.visit s h F).1:=by
 unfold St.visit;split
 . exact yP s τ h 0
 . exact Ws.refl τ
theorem D8 (s:Nat) (τ:St) (h:dw) (F mb:Nat):Ws τ (τ.seen s h F mb).1:=by
 unfold St.seen;split
 . exact yP s τ h F
 . exact Ws.refl τ
theorem D9 (s:Nat) (τ:St) (b:Nat):Ws τ (τ.bind s b):=by
 unfold St.bind;split<;>exact⟨rfl,rfl⟩
theorem CY (D:St):D.take.1.aC=D.aC:=by
 have e:D.list.aC=D.aC:=by unfold St.list;split<;>rfl
 unfold St.take;simp only
 split<;>exact e
theorem yQ (s:Nat) (τ:St) (x:Bool) (F head:Nat):Ws τ (τ.slot s x F head).1:=by
 unfold St.slot
 by_cases h0:F=0
 . rw[aV h0]
   have e1:=uS τ;have e2:=CY τ
   cases e:τ.take with
   |mk bE o=>
    rw[e] at e1 e2
    cases o with
    |none=>exact⟨e1,e2⟩
    |some l=>exact⟨e1,e2⟩
 . rw[aX h0];exact⟨rfl,rfl⟩
theorem Bo (s:Nat) (τ:St) (F head a:Nat):Ws τ (τ.gT s F head a).1:=by
 unfold St.gT;split
 . exact yQ s τ false F head
 . exact Ws.refl τ
theorem CZ (D:St) (l:Nat):(D.give l).aC=D.aC:=by
 unfold St.give
 split
 . simp only
   split<;>rfl
 . rfl
theorem Ea (τ:St) (F:Nat):Ws τ (τ.lost F).1:=by
 unfold St.lost;simp only
 split
 . exact⟨uT τ F,CZ τ F⟩
 . exact Ws.refl τ
theorem nu (τ:St) (s:Nat) (e:Ev):Ws τ (τ.bW s e):=by
 unfold St.bW;split<;>exact⟨rfl,rfl⟩
theorem eG (D:St) (i o v:Nat):(D.bP i o v).words=if D.word i=o then D.words.set i v else D.words:=by unfold St.bP;split<;>rfl
theorem fE (D:St) (i o v:Nat):(D.bP i o v).aC=D.aC:=by unfold St.bP;split<;>rfl
theorem rP (D:St) (s:Nat) (k:K):(D.run s k).1.words=setW D (wr D s k)∧(D.run s k).1.aC=D.aC:=by
 have tk:Ws D D.tick:=⟨rfl,rfl⟩
 cases k with
 |fin r=>exact⟨rfl,rfl⟩
 |start h=>exact tk.trans (Bn s D.tick h _)
 |visit h l=>exact tk
 |maker h l id=>simp only[St.run];(split;exact tk;split<;>exact tk)
 |older h l=>exact tk.trans (Bn s D.tick h _)
 |ended h l mb=>
  simp only[St.run]
  split
  . exact tk
  . split
    . exact tk.trans (D8 s D.tick h l mb)
    . exact tk
 |eY h l mb id=>
  simp only[St.run]
  split
  . exact tk.trans (D8 s D.tick h l mb)
  . split
    . exact tk.trans (D9 s D.tick id)
    . exact tk
 |seen h l mb=>
  simp only[St.run]
  split
  . exact tk
  . split
    . exact (tk.trans (D9 s D.tick mb)).trans (yP s _ h l)
    . exact tk.trans (yP s _ h l)
 |again e=>
  simp only[St.run]
  split<;>exact⟨rfl,rfl⟩
 |own l=>simp only[St.run];(split;exact tk;split<;>exact tk)
 |fG l w id=>simp only[St.run];split<;>exact tk
 |claim l w=>
  simp only[St.run,wr]
  split
  . rename_i h
    try rw[aX h]
    exact⟨by rw[eG,aX h];rfl,fE _ _ _ _⟩
  . rename_i h
    have h':D.word (af l 1)=w:=Classical.byContradiction h
    try rw[aV h']
    have e1:(D.bP (af l 1) w (mine (D.t s))).words=setW D (some (af l 1,mine (D.t s))):=by rw[eG,aV h'];rfl
    split
    . exact⟨e1,fE _ _ _ _⟩
    . have e2:Ws (D.bP (af l 1) w (mine (D.t s))) (((D.bP (af l 1) w (mine (D.t s))).bF s ((D.bP (af l 1) w (mine (D.t s))).c s).op.E ⟨0,l,false⟩).slot s true 0 0).1:=Ws.pre (yQ s _ true 0 0) ⟨rfl,rfl⟩
      exact⟨e2.1.trans e1,e2.2.trans (fE _ _ _ _)⟩
 |fresh l=>exact tk.trans (Bo s D.tick l _ _)
 |next l h a=>exact tk.trans (Bo s D.tick l _ _)
 |free l h a=>
  simp only[St.run]
  split
  . exact tk
  . split
    . exact tk.trans (Ea D.tick l)
    . exact tk
 |dB l h a id=>
  simp only[St.run]
  split
  . exact tk
  . exact tk.trans (Ea D.tick l)
 |dX x l h=>exact⟨rfl,rfl⟩
 |dM x l h=>exact⟨rfl,rfl⟩
 |push l h=>exact⟨rfl,rfl⟩
 |dC l h=>
  simp only[St.run,wr]
  split
  . rename_i e
    try rw[aX e]
    exact⟨by rw[eG,aX e];rfl,fE _ _ _ _⟩
  . rename_i e
    have e':D.word (9+(D.c s).op.E)=h:=Classical.byContradiction e
    try rw[aV e']
    exact⟨by show (D.bP _ _ _).words=_;rw[eG,aV e'];rfl,fE _ _ _ _⟩
 |over l=>exact tk
 |fU l h=>exact⟨rfl,rfl⟩
 |dI l h=>
  simp only[St.run,wr]
  split
  . rename_i e
    try rw[aX e]
    exact⟨by rw[eG,aX e];rfl,fE _ _ _ _⟩
  . rename_i e
    have e':D.word (9+(D.c s).op.E)=h:=Classical.byContradiction e
    try rw[aV e']
    exact⟨by show (D.bP _ _ _).words=_;rw[eG,aV e'];rfl,fE _ _ _ _⟩
 |draw=>simp only[St.run];(split;exact tk;split<;>exact tk)
 |dJ w now=>
  simp only[St.run,wr,St.bT];refine⟨?_,fE _ _ _ _⟩;rw[eG]
  split<;>rfl
 |turn w now=>
  simp only[St.run,wr]
  split
  . rename_i e
    try rw[aX e]
    exact⟨by rw[eG,aX e];rfl,fE _ _ _ _⟩
  . rename_i e
    have e':D.word 0=w:=Classical.byContradiction e
    try rw[aV e']
    exact⟨by show (D.bP _ _ _).words=_;rw[eG,aV e'];rfl,fE _ _ _ _⟩
 |dD=>
  simp only[St.run,wr,St.bT];refine⟨?_,fE _ _ _ _⟩;rw[eG]
  split<;>rfl
 |wait i=>simp only[St.run];(split;exact tk;split<;>exact tk)
 |bO=>exact⟨(nu _ s _).1,(nu _ s _).2⟩
 |abort e r=>exact⟨(nu _ s _).1,(nu _ s _).2⟩
 |turns l r=>
  cases l with
  |nil=>exact⟨rfl,rfl⟩
  |cons x l=>
   simp only[St.run,wr]
   by_cases h0:x.old=0
   . rw[aV h0,aV (.inl h0)];exact⟨rfl,rfl⟩
   . rw[aX h0]
     by_cases h1:D.word x.at_=x.old
     . rw[aV (.inr h1)];exact⟨by rw[eG,aV h1];rfl,fE _ _ _ _⟩
     . rw[aX (by rintro (a|a);exact h0 a;exact h1 a)];exact⟨by rw[eG,aX h1];rfl,fE _ _ _ _⟩
end
def cnt (t:bB) (E:Nat):Nat:=t.reads.countP (fun r=>r.1==E)
def qN (h:dw) (E:Nat):Nat:=
 match h.thn with
 |.scan _=>if h.E<=E then 1 else 0
 |.judge _ _=>0
 |_=>if E=h.E then 1 else 0
def pend (E:Nat):K->Nat
 |.start h|.visit h _|.maker h _ _|.ended h _ _|.eY h _ _ _|.older h _=>qN h E
 |.seen h _ mb=>qN h E+if mb=0 then 13 else 0
 |.turns l _=>if 192<l.length then 13 else 0
 |_=>0
structure TL (t:bB) (p:Nat->Nat):Prop where
 mul:∀ E,cnt t E+p E<=t.ops
 kd:t.keys.Nodup
 kl:∀ E∈t.keys,E<64
structure Ef (N:Nat) (D τ:St) (O:Nat->Nat) (a b p h k0:Nat):Prop where
 sl:τ.aC=D.aC
 ck:τ.word 0=D.word 0∨a=1
 en:∀ l,LK N l->τ.word (af l 1)=D.word (af l 1)∨b=1
 st:∀ id,id<=2000->bA (τ.word (τ.place id))=4->bA (D.word (D.place id))=4∨p=1
 hd:∀ E,E<64->τ.word (9+E)=D.word (9+E)∨h=1
 dh:∀ E,E<64->τ.Dh E<=D.Dh E+(if E=k0 then h else 0)
 nx:∀ x,LK N x->(1<=O (aj x)∧O (aj x)<=64)∨O (aj x)=200->τ.word (af x 2)=D.word (af x 2)
section
variable {N L n s q cq d:Nat} {D τ υ:St} {t:bB} {c:dF} {C:Nat->List Nat} {O O':Nat->Nat} {a b p h k0:Nat}
theorem Ef.cost (e:Ef N D τ O a b p h k0) {E:Nat} (V:E<64):τ.cost E<=D.cost E+6*(if E=k0 then h else 0):=by
 have:=e.dh E V;unfold St.cost;omega
theorem Ef.judge (e:Ef N D τ O a b p h k0) (hh:h<=1):∀ (l:List (Nat×Nat×Bool)),(∀ r∈l,r.1<64)->τ.aI l<=D.aI l+6*(h*l.countP (fun r=>r.1==k0)):=by
 intro l
 induction l with
 |nil=>intro _;exact zz _
 |cons r l ih=>
  intro hl;have h1:=ih (fun r hr=>hl r (pq _ hr));have h2:=e.cost (hl r lJ);unfold St.aI at h1 ⊢;rw[List.map_cons,List.map_cons,List.sum_cons,List.sum_cons,List.countP_cons]
  by_cases hr:r.1=k0
  . rw[aV hr] at h2
    rw[show (r.1==k0)=true by simpa using hr,aV rfl,Nat.mul_add];omega
  . rw[aX hr] at h2
    rw[show (r.1==k0)=false by simpa using hr,aX (by decide),Nat.mul_add];omega
theorem Ef.scan (e:Ef N D τ O a b p h k0):∀ (m k:Nat),k+m<=64->τ.iH m k<=D.iH m k+12*(if k<=k0 then h else 0):=by
 intro m
 induction m with
 |zero=>intro k _;exact zz _
 |succ m ih=>
  intro k V;have h1:=ih (k+1) (by omega);have h2:=e.cost (E:=k) (by omega);unfold St.iH
  split at h1<;>split at h2<;>split<;>omega
theorem Ef.gY (e:Ef N D τ O a b p h k0) (hh:h<=1) {l:List (Nat×Nat×Bool)} (hl:∀ r∈l,r.1<64) (hc:l.countP (fun r=>r.1==k0)<=12):τ.aI l<=D.aI l+72*h:=by
 have h1:=e.judge hh l hl;have h2:h*l.countP (fun r=>r.1==k0)<=h*12:=Nat.mul_le_mul_left _ hc;omega
theorem Ef.sg (e:Ef N D τ O a b p h k0) {mb:Nat} (hm:mb<=2000):τ.sg N mb<=D.sg N mb+(6*N+10)*p:=by
 unfold St.sg
 by_cases h1:mb≠0∧bA (τ.word (τ.place mb))=4
 . rw[aV h1]
   rcases e.st mb hm h1.2 with h2|h2
   . rw[aV ⟨h1.1,h2⟩];omega
   . rw[h2];omega
 . rw[aX h1];exact zz _
theorem l8 {i v x m:Nat} (h:τ.word i=D.word i∨m=1):τ.st i v x<=D.st i v x+x*m:=by
 unfold St.st
 rcases h with h|h
 . rw[h];omega
 . subst h
   split<;>split<;>omega
theorem Ef.after (e:Ef N D τ O a b p h k0) (hh:h<=1) {hu:dw} (V:gp t c hu) (hr:∀ r∈t.reads,r.1<64) (hc:cnt t k0<=12):τ.dx t c hu<=D.dx t c hu+90*h:=by
 have hJ:=e.gY hh hr hc;have hC:=e.cost V.1;have hCs:(if hu.E=k0 then h else 0)<=h:=by split<;>omega
 unfold St.dx;have h2:=V.2
 split at h2
 . rename_i e1;simp only[e1];omega
 . rename_i k e1
   simp only[e1];have:=e.scan (c.op.hi - k) (k+1) (by have:=V.1;omega);have h3:(if k+1<=k0 then h else 0)<=h:=by split<;>omega
   omega
 . rename_i e1;simp only[e1];omega
 . rename_i i l e1
   simp only[e1];have:=e.gY hh (l:=t.reads.drop (i+1)) (fun r hr'=>hr r (List.mem_of_mem_drop hr')) (eP (List.Sublist.countP_le (List.drop_sublist _ _)) hc);omega
theorem Ef.dn (e:Ef N D τ O a b p h k0) (hN:N<=256) {l:Nat} (hp:Path N D O cq l) (hl:LK N l):τ.Dn l=D.Dn l:=(hp.U5 hN e.nx).2 hl.ne
set_option maxHeartbeats 1600000 in
theorem Ef.bV (e:Ef N D τ O a b p h k0) (hh:h<=1) (hN:N<=256) (hT:TX N L n t) {k:K} (V:uM N L t c k) (hp:Pv N D O s cq k) (hc:cnt t k0<=12):τ.bV N t c k<=D.bV N t c k+3*a+8*b+(6*N+10)*p+(3*N+120)*h:=by
 have hJ:=e.gY hh hT.rd hc;have hA:∀ {hu:dw},gp t c hu->τ.dx t c hu<=D.dx t c hu+90*h:=fun hu=>e.after hh hu hT.rd hc
 have h1:(3*N+120)*h=(3*N)*h+120*h:=Nat.add_mul _ _ _;have h2:(3*N+20)*h=(3*N)*h+20*h:=Nat.add_mul _ _ _
 cases k with
 |fin r=>simp only[St.bV];omega
 |start hu=>
  have:=hA V;have:=e.cost V.1;have:(if hu.E=k0 then h else 0)<=h:=by split<;>omega
  simp only[St.bV];omega
 |visit hu l=>have:=hA V.1;have:=e.dn hN hp V.2;simp only[St.bV];omega
 |maker hu l id=>have:=hA V.1;have:=e.dn hN hp V.2.1;simp only[St.bV];omega
 |older hu l=>have:=hA V.1;have:=e.dn hN hp V.2;simp only[St.bV];omega
 |ended hu l mb=>have:=hA V.1;have:=e.dn hN hp V.2.1;have:=e.sg V.2.2;simp only[St.bV];omega
 |eY hu l mb id=>have:=hA V.1;have:=e.dn hN hp V.2.1;have:=e.sg V.2.2.1;simp only[St.bV];omega
 |seen hu l mb=>have:=hA V.1;have:=e.dn hN hp V.2.1;have:=e.sg V.2.2;simp only[St.bV];omega
 |again en=>simp only[St.bV];omega
 |own l=>simp only[St.bV];omega
 |fG l w id=>have:=l8 (v:=w) (x:=8) (e.en l V.1);simp only[St.bV];omega
 |claim l w=>have:=l8 (v:=w) (x:=8) (e.en l V.1);simp only[St.bV];omega
 |fresh l=>
  have:=e.dh c.op.E V.2.2;have:(if c.op.E=k0 then h else 0)<=h:=by split<;>omega
  simp only[St.bV];omega
 |next l head at_=>
  have:=l8 (v:=head) (x:=3*N+20) (e.hd c.op.E V.2.2.2.2);have:=e.dn hN hp.2 V.2.2.1;simp only[St.bV];omega
 |free l head at_=>
  have:=l8 (v:=head) (x:=3*N+20) (e.hd c.op.E V.2.2.2.2);have:=e.dn hN hp.2 V.2.2.1;simp only[St.bV];omega
 |dB l head at_ id=>
  have:=l8 (v:=head) (x:=3*N+20) (e.hd c.op.E V.2.2.2.2.2);have:=e.dn hN hp.2 V.2.2.1;simp only[St.bV];omega
 |dX x l head=>
  have:=l8 (v:=head) (x:=3*N+20) (e.hd c.op.E V.2.1);simp only[St.bV]
  cases x<;>simp<;>omega
 |dM x l head=>
  have:=l8 (v:=head) (x:=3*N+20) (e.hd c.op.E V.2.1);simp only[St.bV]
  cases x<;>simp<;>omega
 |push l head=>have:=l8 (v:=head) (x:=3*N+20) (e.hd c.op.E V.2.2.2);simp only[St.bV];omega
 |dC l head=>have:=l8 (v:=head) (x:=3*N+20) (e.hd c.op.E V.2.2.2);simp only[St.bV];omega
 |over l=>simp only[St.bV];omega
 |fU l head=>have:=l8 (v:=head) (x:=8) (e.hd c.op.E V.2.2.2);simp only[St.bV];omega
 |dI l head=>have:=l8 (v:=head) (x:=8) (e.hd c.op.E V.2.2.2);simp only[St.bV];omega
 |draw=>simp only[St.bV];omega
 |dJ w now=>have:=l8 (v:=w) (x:=3) e.ck;simp only[St.bV];omega
 |turn w now=>have:=l8 (v:=w) (x:=3) e.ck;simp only[St.bV];omega
 |dD=>simp only[St.bV];omega
 |wait i=>exact zz _
 |bO=>exact zz _
 |abort e r=>exact zz _
 |turns l r=>exact zz _
theorem Ef.fM (e:Ef N D τ O a b p h k0) {k:K} (V:uM N L t c k):τ.fM N c k<=D.fM N c k+8*h:=by
 have hst:∀ head,c.op.E<64->τ.st (9+c.op.E) head 8<=D.st (9+c.op.E) head 8+8*h:=fun head hh=>l8 (e.hd _ hh)
 unfold St.fM
 cases k with
 |next l head at_=>have:=hst head V.2.2.2.2;simp only[St.xs];omega
 |free l head at_=>have:=hst head V.2.2.2.2;simp only[St.xs];omega
 |dB l head at_ id=>have:=hst head V.2.2.2.2.2;simp only[St.xs];omega
 |dX x l head=>have:=hst head V.2.1;simp only[St.xs];cases x<;>simp<;>omega
 |dM x l head=>have:=hst head V.2.1;simp only[St.xs];cases x<;>simp<;>omega
 |push l head=>have:=hst head V.2.2.2;simp only[St.xs];omega
 |dC l head=>have:=hst head V.2.2.2;simp only[St.xs];omega
 |_=>exact Nat.le_add_right _ _
theorem C8 (e:τ.words=D.words):∀ (m l:Nat),CV τ m l=CV D m l:=by
 intro m
 induction m with
 |zero=>intro l;rfl
 |succ m ih=>
  intro l;unfold CV;have:τ.word (af l 2)=D.word (af l 2):=by unfold St.word;rw[e]
  rw[this,ih]
theorem Ws.word (e:Ws D τ) (i:Nat):τ.word i=D.word i:=by unfold St.word;rw[e.1]
theorem Ws.zp (e:Ws D τ) (l:Nat):τ.zp l=D.zp l:=C8 e.1 300 l
theorem Ws.Dh (e:Ws D τ) (E:Nat):τ.Dh E=D.Dh E:=by unfold St.Dh;rw[e.word,e.zp]
theorem Ws.Dn (e:Ws D τ) (l:Nat):τ.Dn l=D.Dn l:=by unfold St.Dn;rw[e.word,e.zp]
theorem Ws.cost (e:Ws D τ) (E:Nat):τ.cost E=D.cost E:=by unfold St.cost;rw[e.Dh]
theorem Ws.aI (e:Ws D τ) (l:List (Nat×Nat×Bool)):τ.aI l=D.aI l:=by
 unfold St.aI
 congr 1
 exact List.map_congr_left (fun r _=>e.cost r.1)
theorem Ws.iH (e:Ws D τ):∀ (m k:Nat),τ.iH m k=D.iH m k:=by
 intro m
 induction m with
 |zero=>intro k;rfl
 |succ m ih=>intro k;unfold St.iH;rw[e.cost,ih]
theorem Ws.dx (e:Ws D τ) (t:bB) (c:dF) (h:dw):τ.dx t c h=D.dx t c h:=by
 unfold St.dx
 split<;>simp only[e.cost,e.aI,e.iH]
theorem Ws.place (e:Ws D τ) (id:Nat):τ.place id=D.place id:=by unfold St.place;rw[e.2]
theorem Ws.sg (e:Ws D τ) (N mb:Nat):τ.sg N mb=D.sg N mb:=by unfold St.sg;rw[e.place,e.word]
theorem Ws.st (e:Ws D τ) (i v x:Nat):τ.st i v x=D.st i v x:=by unfold St.st;rw[e.word]
theorem Ws.bV (e:Ws D τ) (N:Nat) (t:bB) (c:dF) (k:K):τ.bV N t c k=D.bV N t c k:=by
 cases k<;>simp only[St.bV,e.cost,e.aI,e.dx,e.Dn,e.Dh,e.sg,e.st]
theorem Ws.fM (e:Ws D τ) (N:Nat) (c:dF) (k:K):τ.fM N c k=D.fM N c k:=by
 unfold St.fM
 cases k<;>simp only[St.xs,e.st]
end
def wa (D:St) (s:Nat):K->Nat
 |.turn w _=>if D.word 0=w then 1 else 0
 |_=>0
def wb (D:St) (s:Nat):K->Nat
 |.again _|.dM _ _ _|.turns (_::_) _=>1
 |.claim l w=>if D.word (af l 1)=w then 1 else 0
 |_=>0
def wp (D:St) (s:Nat):K->Nat
 |.abort _ _=>1
 |_=>0
def wh (D:St) (s:Nat):K->Nat
 |.dC _ h|.dI _ h=>if D.word (9+(D.c s).op.E)=h then 1 else 0
 |_=>0
section
variable {N L n s q cq d:Nat} {D τ υ:St} {t:bB} {c:dF} {C:Nat->List Nat} {O O':Nat->Nat} {a b p h k0:Nat}
theorem o7 (e:τ.words=D.words) (i:Nat):τ.word i=D.word i:=by unfold St.word;rw[e]
theorem gN {i v:Nat} (e:τ.words=D.words.set i v) (j:Nat) (hj:j≠i):τ.word j=D.word j:=by
 unfold St.word;rw[e,fK,aX (fun x=>hj x.1)]
theorem yR {i v:Nat} (e:τ.words=D.words.set i v) (hi:i<D.words.length):τ.word i=v:=by
 unfold St.word;rw[e,fK,aV ⟨rfl,hi⟩]
theorem iY.Hw (h:CS N D C O) (hN:N<=256) {E:Nat} (V:E<64) (hh:τ.word (9+E)=D.word (9+E)) (hn:∀ x,LK N x->(1<=O (aj x)∧O (aj x)<=64)∨O (aj x)=200->τ.word (af x 2)=D.word (af x 2)):τ.Dh E=D.Dh E:=by
 have h1:=(h.Dh hN V).1;rw[h1];unfold St.Dh;rw[hh];refine (iR hN ((h.ch E V).nQ (fun x hx=>hn x (h.lo E V x hx).1 (.inl ?_))) (fun x hx=>(h.lo E V x hx).1)).2;have:=(h.lo E V x hx).2;omega
theorem Kt (e:τ.words=D.words) (es:τ.aC=D.aC):Ef N D τ O a b p h k0:=by
 have ep:∀ id,τ.place id=D.place id:=fun id=>by unfold St.place;rw[es]
 have w:Ws D τ:=⟨e,es⟩
 exact⟨es,.inl (o7 e _),fun l _=>.inl (o7 e _),fun id _ h4=>.inl (by rw[<-ep,<-o7 e];exact h4),fun k _=>.inl (o7 e _),fun k _=>by rw[w.Dh];omega,fun x _ _=>o7 e _⟩
theorem MU (hcs:CS N D C O) (hs:Sh N L n D) {i v:Nat} (e:τ.words=D.words.set i v) (es:τ.aC=D.aC) (h1:¬ (9<=i∧i<73)) (h2:∀ x,LK N x->(1<=O (aj x)∧O (aj x)<=64)∨O (aj x)=200->af x 2≠i)
 (ha:i=0->a=1) (Z:∀ l,LK N l->af l 1=i->b=1) (hp:∀ id,id<=2000->73+N*3+id=i->bA v=4->p=1):Ef N D τ O a b p h k0:=by
 have ep:∀ id,τ.place id=73+N*3+id:=fun id=>by unfold St.place;rw[es,hs.sl]
 have Sb:∀ id,D.place id=73+N*3+id:=fun id=>by unfold St.place;rw[hs.sl]
 refine⟨es,?_,fun l hl=>?_,fun id hid h4=>?_,fun k V=>.inl ?_,fun k V=>?_,fun x hx ho=>gN e _ (h2 x hx ho)⟩
 . by_cases h0:i=0
   . exact .inr (ha h0)
   . exact .inl (gN e _ (fun x=>h0 x.symm))
 . by_cases h0:af l 1=i
   . exact .inr (Z l hl h0)
   . exact .inl (gN e _ h0)
 . by_cases h0:73+N*3+id=i
   . refine .inr (hp id hid h0 ?_)
     rw[ep,h0,yR e (by have:=hs.nw;omega)] at h4;exact h4
   . rw[ep,gN e _ h0] at h4
     rw[Sb];exact .inl h4
 . exact gN e _ (by omega)
 . rw[iY.Hw hcs hs.n1 V (gN e _ (by omega)) (fun x hx ho=>gN e _ (h2 x hx ho))]
   omega
theorem Eb (hcs:CS N D C O) (hs:Sh N L n D) {E F:Nat} (V:E<64) (hl:LK N F) (ho:64<O (aj F)) (hn:D.word (af F 2)=D.word (9+E)) (e:τ.words=D.words.set (9+E) F) (es:τ.aC=D.aC):Ef N D τ O a b p 1 E:=by
 have ep:∀ id,τ.place id=73+N*3+id:=fun id=>by unfold St.place;rw[es,hs.sl]
 have Sb:∀ id,D.place id=73+N*3+id:=fun id=>by unfold St.place;rw[hs.sl]
 have hw:∀ x,τ.word (af x 2)=D.word (af x 2):=fun x=>gN e _ (by unfold af;omega)
 refine⟨es,.inl (gN e _ (by omega)),fun l _=>.inl (gN e _ (by unfold af;omega)),fun id _ h4=>.inl ?_,fun k _=>.inr rfl,fun k hk'=>?_,fun x _ _=>hw x⟩
 . rw[ep,gN e _ (by omega)] at h4
   rw[Sb];exact h4
 . by_cases hkk:k=E
   . subst hkk
     rw[aV rfl];have h1:=(hcs.Dh hs.n1 V).1;have hc:iY τ (τ.word (9+k)) (F::C k):=by
      rw[yR e (by have:=hs.nw;omega)];refine⟨rfl,hl.ne,?_⟩;rw[hw,hn];exact (hcs.ch k V).nQ (fun x _=>hw x)
     have h2 := (iR hs.n1 hc (fun x hx => by
       rcases List.mem_cons.1 hx with rfl|hx
       . exact hl
       . exact (hcs.lo k V x hx).1)).2
     unfold St.Dh at h1 ⊢;rw[h2,h1];simp
   . rw[aX hkk,iY.Hw hcs hs.n1 hk' (gN e _ (by omega)) (fun x _ _=>hw x)]
     exact zr _
theorem MV {l x w:Nat} (hw:w<2):af x 2≠af l w:=by unfold af;omega
theorem Ku {l x:Nat} (h:¬ aj x=aj l):af x 2≠af l 2:=by unfold af;omega
set_option maxHeartbeats 1600000 in
theorem Hy (hcs:CS N D C O) (m:Mid N L n s 0 D D t c) {k:K} (V:uM N L t c k) (hpv:Pv N D O s cq k):Ef N D (D.run s k).1 O (wa D s k) (wb D s k) (wp D s k) (wh D s k) c.op.E:=by
 have et:=m.et;have ec:=m.ec;have hs:=m.sh;obtain⟨e1,e2⟩:=rP D s k;have hN:=hs.n1;have pl:∀ id,D.place id=73+N*3+id:=fun id=>hs.place id
 have hlk:∀ {l},LK N l->aj l<N:=fun hl=>hl.aj
 have quiet:wr D s k=none->Ef N D (D.run s k).1 O (wa D s k) (wb D s k) (wp D s k) (wh D s k) c.op.E:=fun e=>Kt (by rw[e1,e];rfl) e2
 have one:∀ {i v},wr D s k=some (i,v)->¬ (9<=i∧i<73)->(∀ x,LK N x->(1<=O (aj x)∧O (aj x)<=64)∨O (aj x)=200->af x 2≠i)->(i=0->wa D s k=1)->(∀ l,LK N l->af l 1=i->wb D s k=1)->(∀ id,id<=2000->73+N*3+id=i->bA v=4->wp D s k=1)->Ef N D (D.run s k).1 O (wa D s k) (wb D s k) (wp D s k) (wh D s k) c.op.E:=by
  intro i v e a1 a2 a3 a4 a5;exact MU hcs hs (by rw[e1,e];rfl) e2 a1 a2 a3 a4 a5
 have yS:∀ {l w},LK N l->w<2->∀ v,wr D s k=some (af l w,v)->(w=1->wb D s k=1)->Ef N D (D.run s k).1 O (wa D s k) (wb D s k) (wp D s k) (wh D s k) c.op.E:=by
  intro l w hl hw v e Z;have:=hlk hl;refine one e (by unfold af;omega) (fun x _ _=>MV hw) (fun x=>by unfold af at x;omega) (fun l' _ x=>?_) (fun id _ x=>by unfold af at x;omega);unfold af at x;exact Z (by omega)
 have Hz:∀ {l},LK N l->O (aj l)=100+s->∀ v,wr D s k=some (af l 2,v)->Ef N D (D.run s k).1 O (wa D s k) (wb D s k) (wp D s k) (wh D s k) c.op.E:=by
  intro l hl ho v e;have:=hlk hl;have:=m.s8;refine one e (by unfold af;omega) (fun x _ hx=>Ku (fun x=>by rw[x] at hx;omega)) (fun x=>by unfold af at x;omega) (fun l' _ x=>?_) (fun id _ x=>by unfold af at x;omega);unfold af at x;omega
 have tC:∀ {id v},(bA v=4->wp D s k=1)->wr D s k=some (D.place id,v)->Ef N D (D.run s k).1 O (wa D s k) (wb D s k) (wp D s k) (wh D s k) c.op.E:=by
  intro id v h4 e;rw[pl] at e;refine one e (by omega) (fun x hx _=>by have:=hlk hx;unfold af;omega) (fun x=>by omega) (fun l' hl x=>by have:=hlk hl;unfold af at x;omega) (fun id' _ x=>h4)
 have Sc:∀ x e,x<8->bA (pack x e)=x:=fun x e hx=>by unfold bA pack;omega
 cases k with
 |fin r=>exact quiet rfl
 |start h=>exact quiet rfl
 |visit h l=>exact quiet rfl
 |older h l=>exact quiet rfl
 |maker h l id=>exact quiet rfl
 |ended h l mb=>exact quiet rfl
 |eY h l mb id=>exact quiet rfl
 |seen h l mb=>exact quiet rfl
 |again e=>
  obtain⟨h1,h2,x,hx,hxo⟩:=V;refine yS (l:=(D.x s (D.c s).op.E).own) (w:=1) ?_ (by omega) _ rfl (fun _=>rfl);have ex:D.x s c.op.E=x:=by unfold St.x;rw[et,hx];rfl
  rw[ec,ex];exact hxo
 |own l=>exact quiet rfl
 |fG l w id=>exact quiet rfl
 |claim l w=>
  by_cases hw:D.word (af l 1)=w
  . exact yS (l:=l) (w:=1) V.1 (by omega) _ (by simp only[wr];rw[aV hw]) (fun _=>by simp only[wb];rw[aV hw])
  . exact quiet (by simp only[wr];rw[aX hw])
 |fresh l=>exact quiet rfl
 |next l h a=>exact quiet rfl
 |free l h a=>exact quiet rfl
 |dB l h a id=>exact quiet rfl
 |dX x l h=>exact yS V.1 (by omega) _ rfl (fun e=>by cases e)
 |dM x l h=>exact yS V.1 (by omega) _ rfl (fun _=>rfl)
 |push l h=>exact Hz V.1 hpv _ rfl
 |fU l h=>exact Hz V.1 hpv _ rfl
 |over l=>exact quiet rfl
 |dC l h=>
  by_cases hw:D.word (9+(D.c s).op.E)=h
  . have ew:wh D s (.dC l h)=1:=by simp only[wh];rw[aV hw]
    rw[ew];have hw':=hw;rw[ec] at hw';exact Eb hcs hs V.2.2.2 V.1 (by have:=hpv.1;omega) (by rw[hpv.2,hw']) (by rw[e1];simp only[wr];rw[aV hw,ec];rfl) e2
  . exact quiet (by simp only[wr];rw[aX hw])
 |dI l h=>
  by_cases hw:D.word (9+(D.c s).op.E)=h
  . have ew:wh D s (.dI l h)=1:=by simp only[wh];rw[aV hw]
    rw[ew];have hw':=hw;rw[ec] at hw';exact Eb hcs hs V.2.2.2 V.1 (by have:=hpv.1;omega) (by rw[hpv.2,hw']) (by rw[e1];simp only[wr];rw[aV hw,ec];rfl) e2
  . exact quiet (by simp only[wr];rw[aX hw])
 |draw=>exact quiet rfl
 |dJ w now=>
  by_cases hw:D.word (D.place (aT w))=pack 1 0
  . have e:wr D s (.dJ w now)=some (D.place (aT w),pack 2 (ai w)):=aV hw
    exact tC (fun h4=>by rw[Sc 2 _ (by omega)] at h4;omega) e
  . exact quiet (by simp only[wr];rw[aX hw])
 |turn w now=>
  by_cases hw:D.word 0=w
  . refine one (i:=0) (by simp only[wr];rw[aV hw]) (by omega) (fun x hx _=>by unfold af;omega) (fun _=>by simp only[wa];rw[aV hw]) (fun l _ x=>by unfold af at x;omega) (fun id _ x=>by omega)
  . exact quiet (by simp only[wr];rw[aX hw])
 |dD=>
  by_cases hw:D.word (D.place (aT (aO (D.t s).ax (D.t s).id)))=pack 1 0
  . have e:wr D s .dD=some (D.place (aT (aO (D.t s).ax (D.t s).id)),pack 2 (ai (aO (D.t s).ax (D.t s).id))):=aV hw
    exact tC (fun h4=>by rw[Sc 2 _ (by omega)] at h4;omega) e
  . exact quiet (by simp only[wr];rw[aX hw])
 |wait i=>exact quiet rfl
 |bO=>exact tC (fun h4=>by rw[Sc 3 _ (by omega)] at h4;omega) rfl
 |abort e r=>exact tC (fun _=>rfl) rfl
 |turns l r=>
  cases l with
  |nil=>
   have:=m.s8;exact one (i:=1+s) rfl (by omega) (fun x _ _=>by unfold af;omega) (fun x=>by omega) (fun l _ x=>by unfold af at x;omega) (fun id _ x=>by omega)
  |cons x l=>
   by_cases hw:x.old=0∨D.word x.at_=x.old
   . have hp:¬ Pl N x.at_:=hpv x lJ
     have hr:=(V.2.2 x lJ).2;refine one (i:=x.at_) (by simp only[wr];rw[aV hw]) (by omega) (fun y hy _ e=>hp (by rw[<-e];exact Pl.next hy)) (fun e=>by omega) (fun l' _ e=>rfl) (fun id _ e=>by omega)
   . exact quiet (by simp only[wr];rw[aX hw])
end
def Less (N L n s d:Nat) (D υ:St) (b B:Nat) (r:St×K):Prop:=∃ t c,Mid N L n s d D r.1 t c∧υ.bV N t c r.2<=b∧υ.fM N c r.2<=B∧TL t (fun E=>pend E r.2)
section
variable {N L n s q cq d b b' B B':Nat} {D τ υ:St} {t:bB} {c:dF} {C:Nat->List Nat} {O O':Nat->Nat} {p p':Nat->Nat}
theorem Less.le {r:St×K} (h:Less N L n s d D υ b B r) (Z:b<=b') (hB:B<=B'):Less N L n s d D υ b' B' r:=by
 obtain⟨t,c,m,h1,h2,h3⟩:=h;exact⟨t,c,m,eP h1 Z,eP h2 hB,h3⟩
theorem TL.mono (h:TL t p) (hp:∀ k,p' k<=p k):TL t p':=⟨fun k=>by have:=h.mul k;have:=hp k;omega,h.kd,h.kl⟩
theorem Kv (t:bB) (E F:Nat) (got:Bool) (k:Nat):cnt {t with reads:=t.reads++[(E,F,got)]} k=cnt t k+if E=k then 1 else 0:=by
 unfold cnt;show (t.reads++[(E,F,got)]).countP _=_;rw[List.countP_append,List.countP_cons,List.countP_nil]
 by_cases e:E=k
 . simp[e]
 . simp[e]
theorem TL.read (h:TL t p) {E F:Nat} {got:Bool} (hp:∀ k,p' k+(if E=k then 1 else 0)<=p k):TL {t with reads:=t.reads++[(E,F,got)]} p':=
 ⟨fun k=>by rw[Kv];have:=h.mul k;have:=hp k;show _<=t.ops;omega,h.kd,h.kl⟩
theorem pY (υ:St) (l:List (Nat×Nat×Bool)) (r:Nat×Nat×Bool):υ.aI (l++[r])=υ.aI l+υ.cost r.1:=by
 unfold St.aI;rw[List.map_append,List.sum_append];simp
theorem sD (υ:St) (l:List (Nat×Nat×Bool)) (k:Nat):υ.aI (l.drop k)<=υ.aI l:=by
 have:υ.aI l=υ.aI (l.take k)+υ.aI (l.drop k):=by
  conv=>lhs;rw[<-List.take_append_drop k l]
  unfold St.aI;rw[List.map_append,List.sum_append]
 omega
theorem yT (υ:St) (l:List (Nat×Nat×Bool)) {i j:Nat} (h:i<=j):υ.aI (l.drop j)<=υ.aI (l.drop i):=by
 have:=sD υ (l.drop i) (j - i);rw[List.drop_drop,show i+(j - i)=j by omega] at this;exact this
theorem Ec (t:bB):∀ (k i:Nat),i<=t.need k i
 |0,i=>zr _
 |k+1,i=>by
  unfold bB.need
  split
  . have:=Ec t k (i+1);omega
  . exact zr _
theorem sF (υ:St) (hT:TX N L n t) {i:Nat} (hi:i<=t.reads.length) (tl:TL t (fun _=>0)):υ.bV N t c (dm t i)<=υ.aI (t.reads.drop i)∧υ.fM N c (dm t i)<=6*N+1610∧TL t (fun E=>pend E (dm t i)):=by
 unfold dm;simp only;have h1:=(yH t (t.reads.length - i) i hi).1;have h2:=Ec t (t.reads.length - i) i;generalize t.need (t.reads.length - i) i=j at h1 h2
 split
 . unfold iK
   split
   . exact⟨zz _,zr _,tl⟩
   . exact⟨zz _,zr _,tl⟩
 . have hj:j<t.reads.length:=by omega
   refine⟨?_,zr _,tl⟩;refine eP ?_ (yT υ t.reads h2);have e:t.reads.getD j (0,0,false)=t.reads[j]:=by rw[mM,zx hj];rfl
   rw[e,List.drop_eq_getElem_cons hj];show υ.cost t.reads[j].1+υ.aI (t.reads.drop (j+1))<=_;unfold St.aI;rw[List.map_cons,List.sum_cons];exact zr _
theorem xE (υ:St) (k:Nat):∀ (E:Nat) (τ:St) (c:dF),Mid N L n s d D τ t c->c.op.hi+1 - E=k->TL t (fun k=>if E<=k then 1 else 0)->Less N L n s d D υ (20+υ.iH k E+υ.aI t.reads) (6*N+1613) (fA s k τ E):=by
 induction k with
 |zero=>
  intro E τ c m V tl;refine⟨t,c,m,?_,zr _,tl.mono (fun _=>zz _)⟩;show 12+_<=_;omega
 |succ k ih=>
  intro E τ c m V tl;unfold fA;rw[m.ec,m.et]
  split
  . exact⟨t,c,m,by show 12+_<=_;omega,zr _,tl.mono (fun _=>zz _)⟩
  . rename_i hlt
    have yU:TL t (fun k=>if E+1<=k then 1 else 0):=tl.mono (fun k=>by split<;>split<;>omega)
    split
    . rename_i x hx
      cases hth:x.there with
      |true=>
       simp only[if_true];exact (ih (E+1) _ _ (m.tell E (τ.valueOf x.own)) (by show c.op.hi+1 - _=_;omega) yU).le (by have:υ.iH (k+1) E=2*υ.cost E+υ.iH k (E+1):=rfl;omega) (zr _)
      |false=>
       simp only[Bool.false_eq_true,if_false];exact (ih (E+1) _ c m (by omega) yU).le (by have:υ.iH (k+1) E=2*υ.cost E+υ.iH k (E+1):=rfl;omega) (zr _)
    . refine⟨t,c,m,?_,zr _,tl⟩
      show υ.cost E+(20+υ.cost E+υ.iH (c.op.hi - E) (E+1)+υ.aI t.reads)<=20+υ.iH (k+1) E+υ.aI t.reads;rw[show c.op.hi - E=k by omega];show _<=20+(2*υ.cost E+υ.iH k (E+1))+_;omega
theorem qO (υ:St) (m:Mid N L n s d D τ t c) {h:dw} (hh:gp t c h) (tl:TL t (fun E=>qN h E)) (F:Nat):Less N L (n+1) s d D υ (υ.dx t c h) (qM N h) (τ.thn s h F):=by
 obtain⟨E,at_,thn⟩:=h;obtain⟨V,h2⟩:=hh;unfold St.thn
 cases thn with
 |get=>
  simp only;have m2:=m.read E F (F !=0) V;have yU:TL {t with reads:=t.reads++[(E,F,(F !=0))]} (fun _=>0):=tl.read (fun k=>by show 0+_<=if k=E then 1 else 0;split<;>split<;>omega);have Z:12+υ.aI (t.reads++[(E,F,(F !=0))])<=υ.dx t c ⟨E,at_,.get⟩:=by
   rw[pY];show _<=20+υ.cost E+υ.aI t.reads;show 12+(_+υ.cost E)<=_;omega
  split
  . exact⟨_,c,m2,Z,zr _,yU⟩
  . exact⟨_,c,m2,Z,zr _,yU⟩
 |scan k=>
  obtain⟨rfl,hhi,hp⟩:=h2;simp only at V hp hhi ⊢;have m2:=m.read k F false V;have yU:TL {t with reads:=t.reads++[(k,F,false)]} (fun q=>if k+1<=q then 1 else 0):=tl.read (fun q=>by show _<=if k<=q then 1 else 0;split<;>split<;>split<;>omega);have Z:20+υ.iH (c.op.hi+1 - (k+1)) (k+1)+υ.aI (t.reads++[(k,F,false)])<=υ.dx t c ⟨k,at_,.scan k⟩:=by
   rw[pY,show c.op.hi+1 - (k+1)=c.op.hi - k by omega];show _<=20+υ.cost k+υ.iH (c.op.hi - k) (k+1)+υ.aI t.reads;show 20+υ.iH (c.op.hi - k) (k+1)+(_+υ.cost k)<=_;omega
  unfold St.scan
  by_cases h0:F=0
  . rw[aV h0,m2.ec]
    exact (xE υ _ (k+1) _ c m2 rfl yU).le Z (zr _)
  . rw[aX h0]
    have m3:=m2.tell k ((τ.read s k F false).valueOf F);rw[m3.ec];exact (xE υ _ (k+1) _ _ m3 rfl yU).le Z (zr _)
 |change=>
  obtain⟨hkk,hx⟩:=h2;simp only at V hkk ⊢;rw[m.ec];have fw:TL t (fun _=>0):=tl.mono (fun _=>zz _);have yU:TL {t with reads:=t.reads++[(c.op.E,F,false)]} (fun _=>0):=tl.read (fun k=>by show 0+_<=if k=E then 1 else 0;split<;>split<;>omega);have Z:12+υ.aI (t.reads++[(c.op.E,F,false)])<=υ.dx t c ⟨E,at_,.change⟩:=by
   rw[pY];show 12+(_+υ.cost c.op.E)<=400+υ.cost E+υ.aI t.reads;rw[hkk];omega
  have hB:6*N+1613<=qM N ⟨E,at_,.change⟩:=by show _<=9*N+2000;omega
  split
  . exact⟨_,c,m.read _ F false (by omega),Z,hB,yU⟩
  split
  . exact⟨_,c,m.read _ F false (by omega),Z,hB,yU⟩
  split
  . refine⟨t,c,m.mono (nO _),?_,?_,fw⟩
    . show 3*υ.Dh c.op.E+271+υ.aI t.reads<=400+υ.cost E+υ.aI t.reads
      rw[hkk];unfold St.cost;omega
    . show 9*N+1980<=9*N+2000;omega
  . refine⟨t,c,m.mono (nO _),?_,zr _,fw⟩
    show 290+υ.aI t.reads<=400+υ.cost E+υ.aI t.reads;omega
 |judge i l=>
  simp only at h2 ⊢;have fw:TL t (fun _=>0):=tl
  split
  . exact⟨t,c,m.mono (nO _),zz _,zr _,fw⟩
  . obtain⟨g1,g2,g3⟩:=sF (c:=c) υ m.t1 (i:=i+1) (show i+1<=t.reads.length from h2) fw
    refine⟨t,c,m.mono (nO _),?_,?_,?_⟩
    . show υ.bV N t c (dm (τ.t s) (i+1))<=_
      rw[m.et];exact g1
    . show υ.fM N c (dm (τ.t s) (i+1))<=_
      rw[m.et];exact g2
    . show TL t (fun E=>pend E (dm (τ.t s) (i+1)))
      rw[m.et];exact g3
theorem vk (υ:St) (m:Mid N L n s d D τ t c) {h:dw} (hh:gp t c h) (tl:TL t (fun E=>qN h E)) (F:Nat):Less N L (n+1) s d D υ ((if F=0 then 0 else 6*υ.Dn F+7)+υ.dx t c h) (qM N h) (τ.visit s h F):=by
 unfold St.visit
 split
 . exact (qO υ m hh tl 0).le (by omega) (zr _)
 . exact⟨t,c,m.mono (nO _),by show 6*υ.Dn F+7+_<=_;omega,zr _,tl⟩
theorem xG (υ:St) (m:Mid N L n s d D τ t c) {h:dw} (hh:gp t c h) (tl:TL t (fun E=>qN h E)) (F mb:Nat):Less N L (n+1) s d D υ (6*υ.Dn F+3+υ.dx t c h+υ.sg N mb) (qM N h) (τ.seen s h F mb):=by
 unfold St.seen
 split
 . exact (qO υ m hh tl F).le (by omega) (zr _)
 . rename_i h0
   exact⟨t,c,m.mono (nO _),zr _,zr _,tl.mono (fun k=>by show qN h k+_<=_;rw[aX h0];exact zr _)⟩
theorem rQ (υ:St) (m:Mid N L n s d D τ t c) (tl:TL t (fun _=>0)) (x:Bool) (F head:Nat):Less N L n s d D υ (266+υ.aI t.reads+if x then 0 else υ.st (9+c.op.E) head (3*N+20)) (9*N+1980+if x then 0 else υ.st (9+c.op.E) head 8) (τ.slot s x F head):=by
 unfold St.slot
 by_cases h0:F=0
 . rw[aV h0]
   have m2:=m.take
   cases e:τ.take with
   |mk BO o=>
    rw[e] at m2
    cases o with
    |none=>exact⟨t,c,m2,zz _,by show 6*N+1610<=_;omega,tl⟩
    |some l=>exact⟨t,c,m2.vals _ _,zr _,zr _,tl⟩
 . rw[aX h0]
   exact⟨t,c,m.vals _ _,zr _,zr _,tl⟩
theorem vw (υ:St) (m:Mid N L n s d D τ t c) (tl:TL t (fun _=>0)) (F head at_:Nat):Less N L n s d D υ ((if at_=0 then 266 else 3*υ.Dn at_+270)+υ.aI t.reads+υ.st (9+c.op.E) head (3*N+20)) (9*N+1980+υ.st (9+c.op.E) head 8) (τ.gT s F head at_):=by
 unfold St.gT
 split
 . exact (rQ υ m tl false F head).le (by simp) (by simp)
 . exact⟨t,c,m,by show 3*υ.Dn at_+270+_+_<=_;omega,zr _,tl⟩
theorem xH (υ:St) (m:Mid N L n s d D τ t c) (tl:TL t (fun _=>0)) (F:Nat):Less N L (n+1) s d D υ 0 (6*N+1610) (τ.lost F):=by
 unfold St.lost
 split
 . exact⟨t,c,m.give F,zr _,zr _,tl⟩
 . exact⟨t,c,m.mono (nO _),zr _,zr _,tl⟩
theorem TL.take (h:TL t p) (hT:TX N L n t) {E:Nat} (hx:t.cell E=none) (V:E<64) (x:jr):TL {t with cells:=(E,x)::t.cells,keys:=t.keys++[E]} p:=by
 refine⟨h.mul,?_,fun k hk'=>?_⟩
 . show (t.keys++[E]).Nodup
   rw[List.nodup_append];refine⟨h.kd,by simp,fun a ha b Z e=>?_⟩;simp at Z;subst Z;subst e;obtain⟨y,hy⟩:=hT.ky a ha;rw[hx] at hy
   cases hy
 . have C9:k∈t.keys++[E]:=hk'
   rw[List.mem_append] at C9
   rcases C9 with C9|C9
   . exact h.kl k C9
   . simp at C9;subst C9;exact V
theorem TL.cells (h:TL t p) (l:List (Nat×jr)):TL {t with cells:=l} p:=⟨h.mul,h.kd,h.kl⟩
theorem Bp (υ:St) (m:Mid N L n s d D τ t c) {h:dw} (tl:TL t (fun E=>qN h E)) (F w:Nat):υ.bV N t c (τ.jb s h F w)<=6*υ.Dn F+6+υ.dx t c h∧υ.fM N c (τ.jb s h F w)<=qM N h∧TL t (fun E=>pend E (τ.jb s h F w)):=by
 unfold St.jb
 split
 . refine⟨?_,zr _,tl⟩
   show 6*υ.Dn F+5+υ.dx t c h+υ.sg N 0<=_;unfold St.sg;rw[aX (fun x=>x.1 rfl)];omega
 split
 . exact⟨by show 6*υ.Dn F+3+_<=_;omega,zr _,tl⟩
 . exact⟨zr _,zr _,tl⟩
end
def kN (N L n s:Nat) (D υ:St) (b B:Nat) (r:St×Option K):Prop:=∃ k d,r.2=some k∧d<=1∧Less N L (n+2) s d D υ b B (r.1,k)
def wt (N:Nat) (D:St) (s:Nat) (k:K):Nat:=3*wa D s k+8*wb D s k+(6*N+10)*wp D s k+(3*N+176)*wh D s k
section
variable {N L n s q cq d b b' B B':Nat} {D τ υ:St} {t:bB} {c:dF} {C:Nat->List Nat} {O O':Nat->Nat} {p p':Nat->Nat}
theorem Less.mono {n':Nat} {r:St×K} (h:Less N L n s d D υ b B r) (hn:n<=n'):Less N L n' s d D υ b B r:=by
 obtain⟨t,c,m,h1,h2,h3⟩:=h;exact⟨t,c,m.mono hn,h1,h2,h3⟩
theorem Less.fF {n':Nat} {r:St×K} (h:Less N L n' s 1 D υ b B r) (hn:n'<=n+2):kN N L n s D υ b B (r.1,some r.2):=⟨r.2,1,rfl,zr _,h.mono hn⟩
theorem kN.ws {r:St×Option K} (h:kN N L n s D D b B r) (w:Ws D υ):kN N L n s D υ b B r:=by
 obtain⟨k,d,h0,h1,t,c,m,h2,h3,h4⟩:=h;exact⟨k,d,h0,h1,t,c,m,by rw[w.bV];exact h2,by rw[w.fM];exact h3,h4⟩
theorem vz {t t2:bB} {h:dw} (e:t2.reads=t.reads):υ.dx t2 c h=υ.dx t c h:=by
 unfold St.dx;rw[e]
theorem Mid.bind' (m:Mid N L n s d D τ t c) (tq:Nat) (hto:tq<=2000):∃ t2,Mid N L (n+1) s d D (τ.bind s tq) t2 c∧t2.cells=t.cells∧t2.reads=t.reads∧t2.ops=t.ops∧t2.keys=t.keys:=by
 obtain⟨t2,m2,-⟩:=m.bind tq hto;refine⟨t2,m2,?_⟩;have e:(τ.bind s tq).t s=t2:=m2.et;have e2:τ.t s=t:=m.et;unfold St.bind at e;rw[e2] at e
 split at e
 . rw[<-e,e2];exact⟨rfl,rfl,rfl,rfl⟩
 . have:(τ.bq s {t with aJ:=t.aJ++[tq]}).t s={t with aJ:=t.aJ++[tq]}:=by
    unfold St.t St.bq;simp only;rw[aM _ _ _ _ (by rw[m.sh.t8];exact m.s8),aV rfl];rfl
   rw[<-e,show ((τ.bq s {t with aJ:=t.aJ++[tq]}).event _).t s=(τ.bq s {t with aJ:=t.aJ++[tq]}).t s from rfl,this];exact⟨rfl,rfl,rfl,rfl⟩
theorem TL.nQ {t2:bB} (h:TL t p) (e1:t2.reads=t.reads) (e2:t2.ops=t.ops) (e3:t2.keys=t.keys):TL t2 p:=⟨fun k=>by unfold cnt;rw[e1,e2];exact h.mul k,by rw[e3];exact h.kd,by rw[e3];exact h.kl⟩
theorem ny {i v x:Nat} (h:υ.word i=v):υ.st i v x=0:=aV h
theorem vB {i v x:Nat} (h:υ.word i≠v):υ.st i v x=x:=aX h
set_option maxHeartbeats 3200000 in
theorem H9 (hcs:CS N D C O) (m:Mid N L n s 0 D D t c) {k:K} (V:uM N L t c k) (hpv:Pv N D O s cq k) (tl:TL t (fun E=>pend E k)) (hl:late k=false) (hf:∀ r,k≠.fin r):
 ∃ b B,b<D.bV N t c k∧B+wt N D s k<=D.fM N c k∧kN N L n s D (D.run s k).1 b B (D.run s k):=by
 have et:=m.et;have ec:=m.ec;have hs:=m.sh;have hT:=m.t1;have mt:=m.tick;have hN:=hs.n1;obtain⟨e1,e2⟩:=rP D s k;have hE:=Hy hcs m V hpv;have fw:TL t (fun _=>0):=tl.mono (fun _=>zz _);have hC:cnt t c.op.E<=12:=by have:=fw.mul c.op.E;have:=hT.op;omega
 have hws:wr D s k=none->Ws D (D.run s k).1:=fun e=>⟨by rw[e1,e];rfl,e2⟩
 have hO:∀ l:Nat,Path N D O cq l->l≠0->D.zp l=D.Dn l+1:=fun l hp=>(hp.zp hN).2
 cases k with
 |fin r=>exact absurd rfl (hf r)
 |start h=>
  refine⟨_,qM N h,?_,zr _,kN.ws (Less.fF (vk D mt V tl (D.word (9+h.E))) (by omega)) (hws rfl)⟩;show _<D.cost h.E+_;have h1:=hO _ (hcs.path V.1 cq);unfold St.cost St.Dh
  split
  . omega
  . rename_i h0;have:=h1 h0;omega
 |visit h l=>
  obtain⟨a1,a2,a3⟩:=Bp (τ:=D) D m (h:=h) tl l (D.word (af l 0));exact⟨_,qM N h,by show _<6*D.Dn l+7+_;exact Nat.lt_of_le_of_lt a1 (by omega),zr _,kN.ws (Less.fF (r:=(_,_)) ⟨t,c,mt,zr _,a2,a3⟩ (by omega)) (hws rfl)⟩
 |maker h l id=>
  refine⟨6*D.Dn l+5+D.dx t c h,qM N h,by show _<6*D.Dn l+6+_;omega,zr _,kN.ws ?_ (hws rfl)⟩;simp only[St.run]
  split
  . exact Less.fF (r:=(_,_)) ⟨t,c,mt,by show 6*D.Dn l+3+_<=_;omega,zr _,tl⟩ (by omega)
  split
  . rename_i h2
    refine Less.fF (r:=(_,_)) ⟨t,c,mt,?_,zr _,tl⟩ (by omega);show 6*D.Dn l+5+_+D.sg N id<=_;unfold St.sg;rw[aX (fun x=>by have:=x.2;omega)];exact zr _
  . refine Less.fF (r:=(_,_)) ⟨t,c,mt,?_,zr _,tl⟩ (by omega)
    show 6*D.Dn l+5+_+D.sg N 0<=_;unfold St.sg;rw[aX (fun x=>x.1 rfl)];exact zr _
 |older h l=>
  refine⟨_,qM N h,?_,zr _,kN.ws (Less.fF (vk D mt V.1 tl (D.word (af l 2))) (by omega)) (hws rfl)⟩;show _<6*D.Dn l+3+_;have h1:=hO _ (hpv.tail V.2.ne);have h2:D.Dn l=D.zp (D.word (af l 2)):=rfl
  split
  . omega
  . rename_i h0;have:=h1 h0;omega
 |ended h l mb=>
  refine⟨6*D.Dn l+4+D.dx t c h+D.sg N mb,qM N h,by show _<6*D.Dn l+5+_+_;omega,zr _,kN.ws ?_ (hws rfl)⟩;simp only[St.run]
  split
  . exact Less.fF (r:=(_,_)) ⟨t,c,mt,by show 6*D.Dn l+3+_<=_;omega,zr _,tl⟩ (by omega)
  split
  . exact Less.fF ((xG D mt V.1 tl l mb).le (by omega) (zr _)) (by omega)
  . exact Less.fF (r:=(_,_)) ⟨t,c,mt,zr _,zr _,tl⟩ (by omega)
 |eY h l mb id=>
  refine⟨6*D.Dn l+3+D.dx t c h+D.sg N mb,qM N h,by show _<6*D.Dn l+4+_+_;omega,zr _,kN.ws ?_ (hws rfl)⟩;simp only[St.run]
  split
  . exact Less.fF (xG D mt V.1 tl l mb) (by omega)
  split
  . obtain⟨t2,m2,f1,f2,f3,f4⟩:=mt.bind' id V.2.2.2
    refine Less.fF (r:=(_,_)) ⟨t2,c,m2,?_,zr _,tl.nQ f2 f3 f4⟩ (by omega);show 6*D.Dn l+3+D.dx t2 c h<=_;rw[vz f2];omega
  . exact Less.fF (r:=(_,_)) ⟨t,c,mt,by show 6*D.Dn l+3+_<=_;omega,zr _,tl⟩ (by omega)
 |seen h l mb=>
  have hmb:mb≠0:=by
   rintro rfl;have h1:=tl.mul 0;have h2:=hT.op;simp only[pend,if_true] at h1;omega
  have Sd:TL t (fun E=>qN h E):=tl.mono (fun k=>by show _<=qN h k+_;omega);refine⟨6*D.Dn l+2+D.dx t c h+D.sg N mb,qM N h,by show _<6*D.Dn l+3+_+_;omega,zr _,kN.ws ?_ (hws rfl)⟩;simp only[St.run]
  split
  . rename_i h4
    refine Less.fF (r:=(_,_)) ⟨t,c,mt,?_,zr _,Sd⟩ (by omega);show D.cost h.E+D.dx t c h<=_;have h1:=(hcs.Dh hN V.1.1).2;unfold St.sg St.cost;rw[aV ⟨hmb,h4⟩];omega
  . split
    . obtain⟨t2,m2,f1,f2,f3,f4⟩:=mt.bind' mb V.2.2
      refine Less.fF ((qO D m2 (mI V.1 f1 f2) (Sd.nQ f2 f3 f4) l).le ?_ (zr _)) (by omega);rw[vz f2];omega
    . exact Less.fF ((qO D mt V.1 Sd l).le (by omega) (zr _)) (by omega)
 |again en=>
  obtain⟨h1,h2,x,hx,hxo⟩:=V;have hJ:=hE.gY (zz _) hT.rd hC;refine⟨12+D.aI t.reads,6*N+1613,by show _<14+_;omega,by show _+(3*0+8*1+_*0+_*0)<=6*N+1630;omega,?_⟩;have ex:D.x s c.op.E=x:=by unfold St.x;rw[et,hx];rfl
  have yV:∀ t2:bB,t2.reads=t.reads->(D.run s (.again en)).1.bV N t2 c (.fin {})<=12+D.aI t.reads:=fun t2 e=>by
   show 12+_<=_;rw[e];have:wh D s (.again en)=0:=rfl;omega
  generalize (D.run s (.again en)).1=υ at yV;simp only[St.run,ec,ex];have m1:=m.put (gW (w:=1) hxo (by omega) h1 h2);have m2:=m1.bq (o6 m1.t1 c.op.E {x with there:=(c.op.kind !=4)} (m.t1.cell hx).1 (m.t1.cell hx).2.1 (fun _=>hxo));have e3:((D.put (af x.own 1) en).c s).op.kind=c.op.kind:=by rw[m1.ec]
  have e4:((D.put (af x.own 1) en).ed s c.op.E {x with there:=(c.op.kind !=4)})=((D.put (af x.own 1) en).bq s {t with cells:=upd t.cells c.op.E {x with there:=(c.op.kind !=4)}}):=by unfold St.ed;rw[m1.et]
  rw[e3,e4]
  split
  . exact Less.fF (r:=(_,_)) ⟨_,c,m2.vals _ _,yV _ rfl,zr _,fw.cells _⟩ (by omega)
  . exact Less.fF (r:=(_,_)) ⟨_,c,m2,yV _ rfl,zr _,fw.cells _⟩ (by omega)
 |own l=>
  refine⟨288+D.aI t.reads,9*N+2000,by show _<290+_;omega,zr _,kN.ws ?_ (hws rfl)⟩;simp only[St.run]
  split
  . refine Less.fF (r:=(_,_)) ⟨t,c,mt,?_,zr _,fw⟩ (by omega)
    show 286+_+D.st _ _ 8<=_;rw[ny rfl];omega
  split
  . refine Less.fF (r:=(_,_)) ⟨t,c,mt,?_,zr _,fw⟩ (by omega)
    show 288+_+D.st _ _ 8<=_;rw[ny rfl];exact zr _
  . exact Less.fF (r:=(_,_)) ⟨t,c,mt,zz _,by show 6*N+1610<=_;omega,fw⟩ (by omega)
 |fG l w id=>
  refine⟨286+D.aI t.reads+D.st (af l 1) w 8,9*N+2000,by show _<288+_+_;omega,zr _,kN.ws ?_ (hws rfl)⟩;simp only[St.run]
  split
  . exact Less.fF (r:=(_,_)) ⟨t,c,mt,zz _,by show 6*N+1610<=_;omega,fw⟩ (by omega)
  . exact Less.fF (r:=(_,_)) ⟨t,c,mt,zr _,zr _,fw⟩ (by omega)
 |claim l w=>
  obtain⟨hl',hx,hkk⟩:=V;have m1:=m.bP (o:=w) (gW (L:=L) (w:=1) hl' (by omega) (lZ m.t1) (lY m.t1));have hJ:=hE.gY (zz _) hT.rd hC;have h0:wh D s (.claim l w)=0:=rfl
  by_cases hw:D.word (af l 1)=w
  . have hw1:wb D s (.claim l w)=1:=by simp only[wb];rw[aV hw]
    refine⟨266+D.aI t.reads,9*N+1980,by show _<286+_+_;omega,?_,?_⟩
    . show _+(3*0+8*wb D s (.claim l w)+_*0+_*0)<=9*N+2000
      rw[hw1];omega
    . have hJ2:(D.run s (.claim l w)).1.aI t.reads<=D.aI t.reads:=by omega
      generalize (D.run s (.claim l w)).1=υ at hJ2;simp only[St.run,et];rw[aX (fun x=>x hw)];have m2:=(m1.mono (nO n)).bq (o5 m1.t1 c.op.E ⟨0,l,false⟩ (.inl rfl) (.inr hl') (by simp));have e1:(D.bP (af l 1) w (mine t)).bF s ((D.bP (af l 1) w (mine t)).c s).op.E ⟨0,l,false⟩=(D.bP (af l 1) w (mine t)).bq s {t with cells:=(c.op.E,⟨0,l,false⟩)::t.cells,keys:=t.keys++[c.op.E]}:=by
       unfold St.bF;rw[m1.et,m1.ec]
      rw[e1,m2.ec];have yU:=fw.take hT hx hkk ⟨0,l,false⟩
      split
      . exact Less.fF (r:=(_,_)) ⟨_,c,m2,by show 12+υ.aI t.reads<=_;omega,by show 6*N+1613<=_;omega,yU⟩ (by omega)
      . exact Less.fF ((rQ υ m2 yU true 0 0).le (by show 266+υ.aI t.reads+0<=_;omega) (by simp)) (by omega)
  . refine⟨290+D.aI t.reads,9*N+2000,?_,?_,kN.ws ?_ (hws ?_)⟩
    . show _<286+_+D.st _ _ 8
      rw[vB hw];omega
    . show _+(3*0+8*wb D s (.claim l w)+_*0+_*0)<=9*N+2000
      have hw1:wb D s (.claim l w)=0:=by simp only[wb];rw[aX hw]
      rw[hw1];omega
    . simp only[St.run,et]
      rw[aV hw];exact Less.fF (r:=(_,_)) ⟨t,c,m1,zr _,zr _,fw⟩ (by omega)
    . simp only[wr];rw[aX hw]
 |fresh l=>
  obtain⟨hl',hx,hkk⟩:=V;refine⟨_,9*N+1980,?_,zr _,kN.ws (υ:=_) (b:=(if D.word (9+c.op.E)=0 then 266 else 3*D.Dn (D.word (9+c.op.E))+270)+D.aI t.reads+D.st (9+c.op.E) (D.word (9+c.op.E)) (3*N+20)) ?_ (hws rfl)⟩
  . show _<3*D.Dh c.op.E+271+_
    rw[ny rfl];have h1:=hO _ (hcs.path hkk cq);unfold St.Dh
    split
    . omega
    . rename_i h0;have:=h1 h0;omega
  . simp only[St.run,ec]
    exact Less.fF ((vw D mt fw l _ _).le (zr _) (by rw[ny rfl];exact zr _)) (by omega)
 |next l head at_=>
  obtain⟨hl',hh,ha,hx,hkk⟩:=V;refine⟨_,9*N+1980+D.st (9+c.op.E) head 8,?_,zr _,kN.ws (Less.fF (vw D mt fw l head (D.word (af at_ 2))) (by omega)) (hws rfl)⟩;show _<3*D.Dn at_+268+_+_;have h1:=hO _ (hpv.2.tail ha.ne);have h2:D.Dn at_=D.zp (D.word (af at_ 2)):=rfl
  split
  . omega
  . rename_i h0;have:=h1 h0;omega
 |free l head at_=>
  refine⟨3*D.Dn at_+269+D.aI t.reads+D.st (9+c.op.E) head (3*N+20),9*N+1980+D.st (9+c.op.E) head 8,by show _<3*D.Dn at_+270+_+_;omega,zr _,kN.ws ?_ (hws rfl)⟩;simp only[St.run]
  split
  . exact Less.fF (r:=(_,_)) ⟨t,c,mt,by show 3*D.Dn at_+268+_+_<=_;omega,zr _,fw⟩ (by omega)
  split
  . exact Less.fF ((xH D mt fw l).le (zz _) (by omega)) (by omega)
  . exact Less.fF (r:=(_,_)) ⟨t,c,mt,zr _,zr _,fw⟩ (by omega)
 |dB l head at_ id=>
  refine⟨3*D.Dn at_+268+D.aI t.reads+D.st (9+c.op.E) head (3*N+20),9*N+1980+D.st (9+c.op.E) head 8,by show _<3*D.Dn at_+269+_+_;omega,zr _,kN.ws ?_ (hws rfl)⟩;simp only[St.run]
  split
  . exact Less.fF (r:=(_,_)) ⟨t,c,mt,zr _,zr _,fw⟩ (by omega)
  . exact Less.fF ((xH D mt fw l).le (zz _) (by omega)) (by omega)
 |dX x l head=>
  obtain⟨hl',hkk,hx⟩:=V;have hJ:=hE.gY (zz _) hT.rd hC;have hH:=(hE.hd c.op.E hkk).resolve_right (by show ¬ (0=1);omega);have h0:wh D s (.dX x l head)=0:=rfl;refine⟨264+D.aI t.reads+if x then 0 else D.st (9+c.op.E) head (3*N+20),9*N+1980+if x then 0 else D.st (9+c.op.E) head 8,by show _<266+_+_;omega,zr _,?_⟩;have Ia:(D.run s (.dX x l head)).1.fM N c (.dM x l head)<=9*N+1980+if x then 0 else D.st (9+c.op.E) head 8:=by
   show 9*N+1980+(if x then 0 else (D.run s (.dX x l head)).1.st _ _ _)<=_;unfold St.st;rw[hH];exact zr _
  have yV:(D.run s (.dX x l head)).1.bV N t c (.dM x l head)<=264+D.aI t.reads+if x then 0 else D.st (9+c.op.E) head (3*N+20):=by
   show 264+_+(if x then 0 else (D.run s (.dX x l head)).1.st _ _ _)<=_;unfold St.st;rw[hH];omega
  generalize (D.run s (.dX x l head)).1=υ at yV Ia;simp only[St.run,et];exact Less.fF (r:=(_,_)) ⟨t,c,m.put (gW hl' (by omega) (lZ m.t1) (lY m.t1)),yV,Ia,fw⟩ (by omega)
 |dM x l head=>
  obtain⟨hl',hkk,hx⟩:=V;have hJ:=hE.gY (zz _) hT.rd hC;have hH:=(hE.hd c.op.E hkk).resolve_right (by show ¬ (0=1);omega);have h0:wh D s (.dM x l head)=0:=rfl;refine⟨262+D.aI t.reads+if x then 0 else D.st (9+c.op.E) head (3*N+20),9*N+1972+(if x then 0 else D.st (9+c.op.E) head 8),by show _<264+_+_;omega,by show _+(3*0+8*1+_*0+_*0)<=9*N+1980+(if x then 0 else D.st (9+c.op.E) head 8);omega,?_⟩;have Ia:(D.run s (.dM x l head)).1.fM N c (if x then .over l else .push l head)<=9*N+1972+(if x then 0 else D.st (9+c.op.E) head 8):=by
   cases x with
   |true=>show 9*N+1970+0<=_;omega
   |false=>
    show 9*N+1972+(D.run s (.dM false l head)).1.st _ _ _<=_;unfold St.st;rw[hH];exact zr _
  have yV:(D.run s (.dM x l head)).1.bV N t c (if x then .over l else .push l head)<=262+D.aI t.reads+if x then 0 else D.st (9+c.op.E) head (3*N+20):=by
   cases x with
   |true=>show 262+_<=_;omega
   |false=>
    show 260+_+(D.run s (.dM false l head)).1.st _ _ _<=_;unfold St.st;rw[hH];simp only[Bool.false_eq_true,if_false];omega
  generalize (D.run s (.dM x l head)).1=υ at yV Ia;simp only[St.run];refine Less.fF (r:=(_,_)) ⟨t,c,m.put (gW hl' (by omega) (by decide) qJ),yV,Ia,?_⟩ (by omega)
  cases x<;>exact fw
 |push l head=>
  obtain⟨hl',hh,hx,hkk⟩:=V;have hJ:=hE.gY (zz _) hT.rd hC;have hH:=(hE.hd c.op.E hkk).resolve_right (by show ¬ (0=1);omega);have h0:wh D s (.push l head)=0:=rfl;refine⟨256+D.aI t.reads+D.st (9+c.op.E) head (3*N+20),9*N+1972+D.st (9+c.op.E) head 8,by show _<260+_+_;omega,zr _,Less.fF (r:=(_,_)) ⟨t,c,m.put (oV hl' hh),?_,?_,fw⟩ (by omega)⟩
  . show 256+_+(D.run s (.push l head)).1.st _ _ _<=_
    unfold St.st;rw[hH];omega
  . show 9*N+1972+(D.run s (.push l head)).1.st _ _ _<=_
    unfold St.st;rw[hH];exact zr _
 |dC l head=>
  obtain⟨hl',hh,hx,hkk⟩:=V;have m1:=m.bP (o:=head) (oW (L:=L) hkk (.inr hl'))
  by_cases hw:D.word (9+c.op.E)=head
  . have hw1:wh D s (.dC l head)=1:=by simp only[wh];rw[ec,aV hw]
    have hJ:=hE.gY (by omega) hT.rd hC;refine⟨84+D.aI t.reads,6*N+1613,by show _<256+_+_;omega,?_,?_⟩
    . show _+(3*0+8*0+_*0+(3*N+176)*wh D s (.dC l head))<=9*N+1972+_
      rw[hw1];omega
    . rw[hw1] at hJ
      have hJ2:(D.run s (.dC l head)).1.aI t.reads<=D.aI t.reads+72:=by omega
      generalize (D.run s (.dC l head)).1=υ at hJ2;simp only[St.run,ec];rw[aX (fun x=>x hw)];have m2:=(m1.mono (nO n)).bq (o5 m1.t1 c.op.E ⟨l,0,true⟩ (.inr hl') (.inl rfl) (fun _=>hl'));have e1:(D.bP (9+c.op.E) head l).bF s c.op.E ⟨l,0,true⟩=(D.bP (9+c.op.E) head l).bq s {t with cells:=(c.op.E,⟨l,0,true⟩)::t.cells,keys:=t.keys++[c.op.E]}:=by
       unfold St.bF;rw[m1.et]
      rw[e1];exact Less.fF (r:=(_,_)) ⟨_,c,m2,by show 12+υ.aI t.reads<=_;omega,zr _,fw.take hT hx hkk ⟨l,0,true⟩⟩ (by omega)
  . refine⟨3*N+271+D.aI t.reads,9*N+1980,?_,?_,kN.ws ?_ (hws ?_)⟩
    . show _<256+_+D.st _ _ _
      rw[vB hw];omega
    . show _+(3*0+8*0+_*0+(3*N+176)*wh D s (.dC l head))<=9*N+1972+D.st _ _ 8
      have hw1:wh D s (.dC l head)=0:=by simp only[wh];rw[ec,aX hw]
      rw[hw1,vB hw];omega
    . simp only[St.run,ec]
      rw[aV hw];refine Less.fF (r:=(_,_)) ⟨t,c,m1,?_,?_,fw⟩ (by omega)
      . have:=(hcs.Dh hN hkk).2
        show 3*D.Dh c.op.E+271+_<=_;omega
      . exact zr _
    . simp only[wr];rw[ec,aX hw]
 |over l=>
  refine⟨260+D.aI t.reads,9*N+1970,by show _<262+_;omega,zr _,kN.ws ?_ (hws rfl)⟩;simp only[St.run,ec];refine Less.fF (r:=(_,_)) ⟨t,c,mt,?_,zr _,fw⟩ (by omega);show 260+_+D.st _ _ 8<=_;rw[ny rfl];exact zr _
 |fU l head=>
  obtain⟨hl',hh,hx,hkk⟩:=V;have hJ:=hE.gY (zz _) hT.rd hC;have hH:=(hE.hd c.op.E hkk).resolve_right (by show ¬ (0=1);omega);have h0:wh D s (.fU l head)=0:=rfl;refine⟨256+D.aI t.reads+D.st (9+c.op.E) head 8,9*N+1970,by show _<260+_+_;omega,zr _,Less.fF (r:=(_,_)) ⟨t,c,m.put (oV hl' hh),?_,zr _,fw⟩ (by omega)⟩;show 256+_+(D.run s (.fU l head)).1.st _ _ _<=_;unfold St.st;rw[hH];omega
 |dI l head=>
  obtain⟨hl',hh,hx,hkk⟩:=V;have m1:=m.bP (o:=head) (oW (L:=L) hkk (.inr hl'))
  by_cases hw:D.word (9+c.op.E)=head
  . have hw1:wh D s (.dI l head)=1:=by simp only[wh];rw[ec,aV hw]
    have hJ:=hE.gY (by omega) hT.rd hC;refine⟨84+D.aI t.reads,6*N+1613,by show _<256+_+_;omega,?_,?_⟩
    . show _+(3*0+8*0+_*0+(3*N+176)*wh D s (.dI l head))<=9*N+1970
      rw[hw1];omega
    . rw[hw1] at hJ
      have hJ2:(D.run s (.dI l head)).1.aI t.reads<=D.aI t.reads+72:=by omega
      generalize (D.run s (.dI l head)).1=υ at hJ2;obtain⟨x,hx⟩:=qV.1 hx;simp only[St.run,ec];rw[aX (fun x=>x hw)];have ex:(D.bP (9+c.op.E) head l).x s c.op.E=x:=by unfold St.x;rw[m1.et,hx];rfl
      rw[ex];have m2:=m1.bq (o6 m1.t1 c.op.E {x with own:=l,there:=true} (.inr hl') (m.t1.cell hx).2.1 (fun _=>hl'));have e4:(D.bP (9+c.op.E) head l).ed s c.op.E {x with own:=l,there:=true}=(D.bP (9+c.op.E) head l).bq s {t with cells:=upd t.cells c.op.E {x with own:=l,there:=true}}:=by unfold St.ed;rw[m1.et]
      rw[e4];exact Less.fF (r:=(_,_)) ⟨_,c,m2,by show 12+υ.aI t.reads<=_;omega,zr _,fw.cells _⟩ (by omega)
  . refine⟨262+D.aI t.reads,9*N+1970,?_,?_,kN.ws ?_ (hws ?_)⟩
    . show _<256+_+D.st _ _ _
      rw[vB hw];omega
    . show _+(3*0+8*0+_*0+(3*N+176)*wh D s (.dI l head))<=9*N+1970
      have hw1:wh D s (.dI l head)=0:=by simp only[wh];rw[ec,aX hw]
      rw[hw1];omega
    . simp only[St.run,ec]
      rw[aV hw];exact Less.fF (r:=(_,_)) ⟨t,c,m1,zr _,zr _,fw⟩ (by omega)
    . simp only[wr];rw[ec,aX hw]
 |draw=>
  refine⟨9+D.aI t.reads,6*N+1613,by show _<10+_;omega,zr _,kN.ws ?_ (hws rfl)⟩;simp only[St.run]
  split
  . exact Less.fF (r:=(_,_)) ⟨t,c,mt,zz _,by show 6*N+1610<=_;omega,fw⟩ (by omega)
  split
  . refine Less.fF (r:=(_,_)) ⟨t,c,mt,?_,zr _,fw⟩ (by omega)
    show 8+_+D.st _ _ 3<=_;rw[ny rfl];omega
  . refine Less.fF (r:=(_,_)) ⟨t,c,mt,?_,zr _,fw⟩ (by omega)
    show 9+_+D.st _ _ 3<=_;rw[ny rfl];exact zr _
 |dJ w now=>
  obtain⟨h1,h2,h3,h4⟩:=V;have hJ:=hE.gY (zz _) hT.rd hC;have hK:=hE.ck.resolve_right (by show ¬ (0=1);omega);have h0:wh D s (.dJ w now)=0:=rfl;refine⟨8+D.aI t.reads+D.st 0 w 3,6*N+1613,by show _<9+_+_;omega,zr _,Less.fF (r:=(_,_)) ⟨t,c,m.bT h4,?_,zr _,fw⟩ (by omega)⟩;show 8+_+(D.run s (.dJ w now)).1.st _ _ _<=_;unfold St.st;rw[hK];omega
 |turn w now=>
  have Kw:now<L:=V;have m1:=m.bP (o:=w) (uP (L:=L) (x:=now+1) (id:=t.id) (N:=N) (by omega) hs.l1 hT.i2)
  by_cases hw:D.word 0=w
  . have hJ:=hE.gY (zz _) hT.rd hC
    have h0:wh D s (.turn w now)=0:=rfl;have hw1:wa D s (.turn w now)=1:=by simp only[wa];rw[aV hw]
    refine⟨1+D.aI t.reads,6*N+1610,by show _<8+_+_;omega,?_,?_⟩
    . show _+(3*wa D s (.turn w now)+8*0+_*0+_*0)<=6*N+1613
      rw[hw1];omega
    . have hJ2:(D.run s (.turn w now)).1.aI t.reads<=D.aI t.reads:=by omega
      generalize (D.run s (.turn w now)).1=υ at hJ2;simp only[St.run,et];rw[aX (fun x=>x hw),m1.et];have FM:TX N L n {t with ax:=now+1}:=⟨hT.i1,hT.i2,hT.op,hT.bg,by show now+1<=L;omega,hT.ce,hT.ky,hT.kn,hT.rd,hT.rn,hT.bd,hT.bn⟩
      exact Less.fF (r:=(_,_)) ⟨_,c,(m1.bq FM).event _ (zz _),by show 1+υ.aI t.reads<=_;omega,zr _,⟨fw.mul,fw.kd,fw.kl⟩⟩ (by omega)
  . refine⟨10+D.aI t.reads,6*N+1613,?_,?_,kN.ws ?_ (hws ?_)⟩
    . show _<8+_+D.st _ _ _
      rw[vB hw];omega
    . show _+(3*wa D s (.turn w now)+8*0+_*0+_*0)<=6*N+1613
      have hw1:wa D s (.turn w now)=0:=by simp only[wa];rw[aX hw]
      rw[hw1];omega
    . simp only[St.run,et]
      rw[aV hw];exact Less.fF (r:=(_,_)) ⟨t,c,m1,zr _,zr _,fw⟩ (by omega)
    . simp only[wr];rw[aX hw]
 |dD=>
  have hJ:=hE.gY (zz _) hT.rd hC;have h0:wh D s .dD=0:=rfl;refine⟨D.aI t.reads,6*N+1610,by show _<1+_;omega,zr _,?_⟩;have hJ2:(D.run s .dD).1.aI t.reads<=D.aI t.reads:=by omega
  generalize (D.run s .dD).1=υ at hJ2;simp only[St.run,et];have m1:=m.bT (w:=aO t.ax t.id) (by have:=hT.en;have:=hT.i2;unfold ai aO;omega);rw[m1.et];obtain⟨g1,g2,g3⟩:=sF (c:=c) υ hT (i:=0) (zz _) fw;exact Less.fF (r:=(_,_)) ⟨t,c,m1,eP g1 hJ2,g2,g3⟩ (by omega)
 |wait i=>cases hl
 |bO=>cases hl
 |abort e r=>cases hl
 |turns l r=>cases hl
end
structure Stp (N L n s:Nat) (D aH:St) (kd:Nat) (r:ic) (t:bB) (c:dF) (k:K) (az:St) (ok:Option K) (t2:bB) (c2:dF):Prop where
 tx:D.ag.getD s none=some t
 ca:D.calls.getD s none=some c
 ck:c.k=some k
 ov:c.over=false
 ro:c.r.over=0
 xI:uM N L t {c with waits:=false} k
 m:Mid N L n s 0 (D.aF s {c with waits:=false}) (D.aF s {c with waits:=false}) t {c with waits:=false}
 run:(D.aF s {c with waits:=false}).run s k=(az,ok)
 m2:∃ d,Mid N L (n+2) s d (D.aF s {c with waits:=false}) az t2 c2
 e1:∃ l cs ts tl,aH={az with aL:=l,calls:=cs,ag:=ts,aP:=tl}
 oc:∀ q,q≠s->aH.calls.getD q none=D.calls.getD q none
 ox:∀ q,q≠s->aH.ag.getD q none=D.ag.getD q none
 go:∀ k',ok=some k'->kd=(if c2.waits then 2 else 1)∧r={}∧aH.calls.getD s none=some {c2 with k:=some k'}∧aH.ag.getD s none=some t2∧aH.aP=az.aP
 no:ok=none->kd=3∧r=c2.r∧aH.calls.getD s none=none∧((c2.r.over=0∧aH.ag.getD s none=some t2∧aH.aP=az.aP++[{kind:=2,t:=t2.id,op:=c2.op,res:=c2.r}])∨(c2.r.over≠0∧aH.ag.getD s none=none∧aH.aP=az.aP))
section
variable {N L n s q cq d:Nat} {D τ υ aH:St} {t:bB} {c:dF} {kd:Nat} {r:ic}
theorem WF.parts (h:WF N L n D) (hs:s<8) (hst:ja D s=some (aH,kd,r)):∃ t c k az ok t2 c2,Stp N L n s D aH kd r t c k az ok t2 c2:=by
 unfold ja at hst
 split at hst
 . rename_i t0 c ht hc
   split at hst
   . rename_i k0 hk0
     obtain⟨t,k,V,ht2,m,ho,hr,hkk⟩:=h.mid hs hc;rw[hk0] at V;obtain rfl:=zj V;obtain⟨d,hd,sP⟩:=yJ m ho hr rfl hkk
     split at hst
     rename_i az ok e;rw[e] at sP
     split at hst
     . rename_i c2 hc2
       split at hst
       . rename_i hcond
         have hoth:=pX hcond.2.1;have hmid:∃ t2,Mid N L (n+2) s d (D.aF s {c with waits:=false}) az t2 c2:=by
          cases ok with
          |none=>
           obtain⟨t2,c2',m2,-⟩:=sP;have e1:=m2.ca;simp only at e1;rw[hc2] at e1;obtain rfl:=zj e1;exact⟨t2,m2⟩
          |some k'=>
           obtain⟨t2,c2',m2,-⟩:=sP;have e1:=m2.ca;simp only at e1;rw[hc2] at e1;obtain rfl:=zj e1;exact⟨t2,m2⟩
         obtain⟨t2,m2⟩:=hmid;have rG:s<az.calls.length:=by rw[m2.sh.c8];exact hs
         have sO:s<az.ag.length:=by rw[m2.sh.t8];exact hs
         have hset:∀ (x:Option dF) q,(az.calls.set s x).getD q none=if q=s then x else az.calls.getD q none:=fun x q=>aM _ _ _ _ rG
         have hox:∀ q,q≠s->az.ag.getD q none=D.ag.getD q none:=fun q hq=>m2.ox q hq
         refine⟨t,c,k0,az,ok,t2,c2,?_⟩;unfold jT at hst
         split at hst
         . rename_i k'
           split at hst
           . obtain⟨rfl,Ib⟩:=gZ _ _ _ _ ▸ zj hst
             obtain⟨rfl,rfl⟩:=gZ _ _ _ _ ▸ Ib;refine⟨ht2,hc,hk0,ho,hr,hkk,m,e,⟨d,m2⟩,⟨_,_,_,_,rfl⟩,fun q hq=>?_,fun q hq=>hox q hq,fun k'' e=>?_,fun e=>by cases e⟩
             . show (az.calls.set s _).getD q none=_
               rw[hset,aX hq];exact hoth q hq
             . obtain rfl:=zj e
               refine⟨rfl,rfl,?_,m2.tx,rfl⟩;show (az.calls.set s _).getD s none=_;rw[hset,aV rfl]
           . cases hst
         . split at hst
           . split at hst
             . rename_i ho0
               split at hst
               . rename_i t2' Pw
                 rw[m2.tx] at Pw;obtain rfl:=zj Pw
                 split at hst
                 . obtain⟨rfl,Ib⟩:=gZ _ _ _ _ ▸ zj hst
                   obtain⟨rfl,rfl⟩:=gZ _ _ _ _ ▸ Ib;refine⟨ht2,hc,hk0,ho,hr,hkk,m,e,⟨d,m2⟩,⟨_,_,_,_,rfl⟩,fun q hq=>?_,fun q hq=>hox q hq,fun k'' e=>(by cases e),fun e=>⟨rfl,rfl,?_,.inl ⟨ho0,m2.tx,rfl⟩⟩⟩
                   . show ((az.calls.set s _).set s none).getD q none=_
                     rw[aM _ _ _ _ (by rw[pz];exact rG),aX hq,hset,aX hq];exact hoth q hq
                   . show ((az.calls.set s _).set s none).getD s none=_
                     rw[aM _ _ _ _ (by rw[pz];exact rG),aV rfl]
                 . cases hst
               . cases hst
             . rename_i ho0
               split at hst
               . obtain⟨rfl,Ib⟩:=gZ _ _ _ _ ▸ zj hst
                 obtain⟨rfl,rfl⟩:=gZ _ _ _ _ ▸ Ib;refine⟨ht2,hc,hk0,ho,hr,hkk,m,e,⟨d,m2⟩,⟨_,_,_,_,rfl⟩,fun q hq=>?_,fun q hq=>?_,fun k'' e=>(by cases e),fun e=>⟨rfl,rfl,?_,.inr ⟨ho0,?_,rfl⟩⟩⟩
                 . show ((az.calls.set s _).set s none).getD q none=_
                   rw[aM _ _ _ _ (by rw[pz];exact rG),aX hq,hset,aX hq];exact hoth q hq
                 . show (az.ag.set s none).getD q none=_
                   rw[aM _ _ _ _ sO,aX hq];exact hox q hq
                 . show ((az.calls.set s _).set s none).getD s none=_
                   rw[aM _ _ _ _ (by rw[pz];exact rG),aV rfl]
                 . show (az.ag.set s none).getD s none=_
                   rw[aM _ _ _ _ sO,aV rfl]
               . cases hst
           . cases hst
       . cases hst
     . cases hst
   . cases hst
 . cases hst
end
end Go.Proofs.YthicolbbmjfkfaaGreat.Em.Cw
