import Derived.Test.YtpkenfnmkpmapaaGreatQh23
namespace Go.Proofs.YtpkenfnmkpmapaaGreat.Em.Cw
open En
set_option linter.unusedVariables false
set_option linter.unusedSimpArgs false
set_option maxRecDepth 100000
set_option maxHeartbeats 1600000
/- How far it is tq a call's end:what is left,and what may be turned yet. -/
def plen (σ:St):Nat→Nat→Nat
 |0,_=>0
 |m+1,l=>if l=0 then 0 else plen σ m (σ.word (wslot l 2))+1
def _root_.Go.Proofs.YtpkenfnmkpmapaaGreat.En.St.D (σ:St) (l:Nat):Nat:=plen σ 300 l
def _root_.Go.Proofs.YtpkenfnmkpmapaaGreat.En.St.Dh (σ:St) (key:Nat):Nat:=σ.D (σ.word (9+key))
def _root_.Go.Proofs.YtpkenfnmkpmapaaGreat.En.St.Dn (σ:St) (l:Nat):Nat:=σ.D (σ.word (wslot l 2))
section
variable {N L n s q d:Nat} {σ τ υ:St} {t:Txn} {c:Cal} {C:Nat→List Nat} {O O':Nat→Nat}
theorem Chain.fn:∀ {ls ls':List Nat} {h:Nat},Chain σ h ls→Chain σ h ls'→ls=ls':=by
 intro ls
 induction ls with
 |nil=>
  intro ls' h a b
  cases ls' with
  |nil=>rfl
  |cons l ls'=>exact absurd a (by rw[b.1];exact b.2.1)
 |cons l ls ih=>
  intro ls' h a b
  cases ls' with
  |nil=>exact absurd b (by rw[a.1];exact a.2.1)
  |cons l' ls'=>
   have e:l=l':=a.1.symm.trans b.1;subst e;rw[ih a.2.2 b.2.2]
theorem Chain.nodup:∀ {ls:List Nat} {h:Nat},Chain σ h ls→(ls.map slotOf).Nodup:=by
 intro ls
 induction ls with
 |nil=>intro h _;exact List.nodup_nil
 |cons l ls ih=>
  intro h a;rw[List.map_cons,List.nodup_cons];refine⟨fun hm=>?_,ih a.2.2⟩;obtain⟨x,hx,e⟩:=List.mem_map.1 hm;obtain⟨pre,post,e1,e2⟩:=a.2.2.split hx;have ew:wslot x 2=wslot l 2:=by unfold wslot;rw[e]
  rw[ew] at e2;have:=Chain.fn a.2.2 e2;rw[e1] at this;have:=congrArg List.length this;simp at this;omega
theorem plen_chain:∀ (m:Nat) (ls:List Nat) (h:Nat),Chain σ h ls→ls.length≤m→plen σ m h=ls.length:=by
 intro m
 induction m with
 |zero=>
  intro ls h _ hm
  cases ls with
  |nil=>rfl
  |cons l ls=>simp at hm
 |succ m ih=>
  intro ls h hc hm;unfold plen
  cases ls with
  |nil=>rw[if_pos (show h=0 from hc)];rfl
  |cons l ls=>
   obtain⟨e1,e2,e3⟩:=hc;subst e1;rw[if_neg e2,ih ls _ e3 (by simp at hm;omega)];rfl
theorem chain_len {ls:List Nat} {h:Nat} (hN:N≤256) (hc:Chain σ h ls) (hl:∀ x∈ls,LK N x):ls.length≤N∧σ.D h=ls.length:=by
 have := nodup_lt N _ hc.nodup (fun x hx => by
   obtain⟨l,hl',rfl⟩:=List.mem_map.1 hx
   exact (hl l hl').slotOf)
 rw[List.length_map] at this;exact⟨this,plen_chain _ _ _ hc (by omega)⟩
theorem Path.D (hN:N≤256) {l:Nat} (h:Path N σ O q l):σ.D l≤N∧(l≠0→σ.D l=σ.Dn l+1):=by
 obtain⟨ls,h1,h2⟩:=h;obtain⟨a,b⟩:=chain_len hN h1 (fun x hx=>(h2 x hx).1);refine⟨by omega,fun hn=>?_⟩
 cases ls with
 |nil=>exact absurd h1 hn
 |cons x ls=>
  obtain⟨e1,e2,e3⟩:=h1;subst e1;have:=(chain_len hN e3 (fun x hx=>(h2 x (List.mem_cons_of_mem _ hx)).1)).2;unfold St.Dn;rw[this,b];rfl
theorem Path.Dto (hN:N≤256) {l:Nat} (h:Path N σ O q l) (hw:∀ x,LK N x→(1≤O (slotOf x)∧O (slotOf x)≤64)∨O (slotOf x)=200→τ.word (wslot x 2)=σ.word (wslot x 2)):τ.D l=σ.D l∧(l≠0→τ.Dn l=σ.Dn l):=by
 obtain⟨ls,h1,h2⟩:=h;have hk:∀ x∈ls,LK N x:=fun x hx=>(h2 x hx).1
 have hww:∀ x∈ls,τ.word (wslot x 2)=σ.word (wslot x 2):=fun x hx=>hw x (h2 x hx).1 ((h2 x hx).2.imp id (·.1))
 refine⟨((chain_len hN (h1.cong hww) hk).2).trans (chain_len hN h1 hk).2.symm,fun hn=>?_⟩
 cases ls with
 |nil=>exact absurd h1 hn
 |cons x ls=>
  obtain⟨e1,e2,e3⟩:=h1;subst e1;unfold St.Dn;rw[hww l List.mem_cons_self];have hk':∀ x∈ls,LK N x:=fun x hx=>hk x (List.mem_cons_of_mem _ hx)
  exact ((chain_len hN (e3.cong (fun x hx=>hww x (List.mem_cons_of_mem _ hx))) hk').2).trans (chain_len hN e3 hk').2.symm
theorem CS.Dh (h:CS N σ C O) (hN:N≤256) {key:Nat} (hk:key<64):σ.Dh key=(C key).length∧σ.Dh key≤N:=by
 obtain⟨a,b⟩:=chain_len hN (h.ch key hk) (fun l hl=>(h.lo key hk l hl).1);unfold St.Dh;exact⟨b,by omega⟩
end
def _root_.Go.Proofs.YtpkenfnmkpmapaaGreat.En.St.cost (σ:St) (key:Nat):Nat:=2+6*σ.Dh key
def _root_.Go.Proofs.YtpkenfnmkpmapaaGreat.En.St.judgeC (σ:St) (l:List (Nat×Nat×Bool)):Nat:=(l.map fun r=>σ.cost r.1).sum
def _root_.Go.Proofs.YtpkenfnmkpmapaaGreat.En.St.scanC (σ:St):Nat→Nat→Nat
 |0,_=>0
 |n+1,k=>2*σ.cost k+σ.scanC n (k+1)
def _root_.Go.Proofs.YtpkenfnmkpmapaaGreat.En.St.afterH (σ:St) (t:Txn) (c:Cal) (h:Hunt):Nat:=
 match h.thn with
 |.get=>20+σ.cost h.key+σ.judgeC t.reads
 |.scan k=>20+σ.cost h.key+σ.scanC (c.op.hi - k) (k+1)+σ.judgeC t.reads
 |.change=>400+σ.cost h.key+σ.judgeC t.reads
 |.judge i _=>σ.judgeC (t.reads.drop (i+1))
def _root_.Go.Proofs.YtpkenfnmkpmapaaGreat.En.St.sg (σ:St) (N mb:Nat):Nat:=if mb≠0∧stateOf (σ.word (σ.place mb))=4 then 6*N+10 else 0
def _root_.Go.Proofs.YtpkenfnmkpmapaaGreat.En.St.st (σ:St) (i v x:Nat):Nat:=if σ.word i=v then 0 else x
def late:K→Bool
 |.wait _|.commit|.abort _ _|.turns _ _=>true
 |_=>false
def _root_.Go.Proofs.YtpkenfnmkpmapaaGreat.En.St.remK (σ:St) (N:Nat) (t:Txn) (c:Cal):K→Nat
 |.fin _=>12+σ.judgeC t.reads
 |.start h=>σ.cost h.key+σ.afterH t c h
 |.visit h l=>6*σ.Dn l+7+σ.afterH t c h
 |.maker h l _=>6*σ.Dn l+6+σ.afterH t c h
 |.ended h l mb=>6*σ.Dn l+5+σ.afterH t c h+σ.sg N mb
 |.ender h l mb _=>6*σ.Dn l+4+σ.afterH t c h+σ.sg N mb
 |.seen h l mb=>6*σ.Dn l+3+σ.afterH t c h+σ.sg N mb
 |.older h l=>6*σ.Dn l+3+σ.afterH t c h
 |.again _=>14+σ.judgeC t.reads
 |.own _=>290+σ.judgeC t.reads
 |.ownTxn link w _=>288+σ.judgeC t.reads+σ.st (wslot link 1) w 8
 |.claim link w=>286+σ.judgeC t.reads+σ.st (wslot link 1) w 8
 |.fresh _=>3*σ.Dh c.op.key+271+σ.judgeC t.reads
 |.free _ head a=>3*σ.Dn a+270+σ.judgeC t.reads+σ.st (9+c.op.key) head (3*N+20)
 |.freeTxn _ head a _=>3*σ.Dn a+269+σ.judgeC t.reads+σ.st (9+c.op.key) head (3*N+20)
 |.next _ head a=>3*σ.Dn a+268+σ.judgeC t.reads+σ.st (9+c.op.key) head (3*N+20)
 |.slotB x _ head=>266+σ.judgeC t.reads+if x then 0 else σ.st (9+c.op.key) head (3*N+20)
 |.slotE x _ head=>264+σ.judgeC t.reads+if x then 0 else σ.st (9+c.op.key) head (3*N+20)
 |.push _ head=>260+σ.judgeC t.reads+σ.st (9+c.op.key) head (3*N+20)
 |.pushC _ head=>256+σ.judgeC t.reads+σ.st (9+c.op.key) head (3*N+20)
 |.over _=>262+σ.judgeC t.reads
 |.overN _ head=>260+σ.judgeC t.reads+σ.st (9+c.op.key) head 8
 |.overC _ head=>256+σ.judgeC t.reads+σ.st (9+c.op.key) head 8
 |.draw=>10+σ.judgeC t.reads
 |.drawH w _=>9+σ.judgeC t.reads+σ.st 0 w 3
 |.turn w _=>8+σ.judgeC t.reads+σ.st 0 w 3
 |.helpJ=>1+σ.judgeC t.reads
 |.wait _=>0
 |.commit=>0
 |.abort _ _=>0
 |.turns _ _=>0
def budH (N:Nat) (h:Hunt):Nat:=
 match h.thn with
 |.change=>9*N+2000
 |.judge _ _=>6*N+1610
 |_=>6*N+1613
def budK (N:Nat):K→Nat
 |.start h|.visit h _|.maker h _ _|.ended h _ _|.ender h _ _ _|.seen h _ _|.older h _=>budH N h
 |.fin _|.draw|.drawH _ _|.turn _ _=>6*N+1613
 |.helpJ|.wait _|.commit|.abort _ _=>6*N+1610
 |.again _=>6*N+1630
 |.own _|.ownTxn _ _ _|.claim _ _=>9*N+2000
 |.fresh _|.next _ _ _|.free _ _ _|.freeTxn _ _ _ _|.slotB _ _ _|.slotE _ _ _=>9*N+1980
 |.push _ _|.pushC _ _=>9*N+1972
 |.over _|.overN _ _|.overC _ _=>9*N+1970
 |.turns l _=>8*l.length
def _root_.Go.Proofs.YtpkenfnmkpmapaaGreat.En.St.xs (σ:St) (c:Cal):K→Nat
 |.next _ head _|.free _ head _|.freeTxn _ head _ _|.push _ head|.pushC _ head=>σ.st (9+c.op.key) head 8
 |.slotB x _ head|.slotE x _ head=>if x then 0 else σ.st (9+c.op.key) head 8
 |_=>0
def _root_.Go.Proofs.YtpkenfnmkpmapaaGreat.En.St.budK (σ:St) (N:Nat) (c:Cal) (k:K):Nat:=Cw.budK N k+σ.xs c k
def _root_.Go.Proofs.YtpkenfnmkpmapaaGreat.En.St.rem (σ:St) (N s:Nat):Nat:=
 match σ.txns.getD s none with
 |none=>0
 |some t=>
  match σ.calls.getD s none with
  |none=>11+σ.judgeC t.reads
  |some c=>match c.k with|some k=>σ.remK N t c k|none=>0
def _root_.Go.Proofs.YtpkenfnmkpmapaaGreat.En.St.bud (σ:St) (N s:Nat):Nat:=
 match σ.txns.getD s none with
 |none=>0
 |some t=>
  match σ.calls.getD s none with
  |none=>6*N+1613
  |some c=>match c.k with|some k=>σ.budK N c k|none=>0
def _root_.Go.Proofs.YtpkenfnmkpmapaaGreat.En.St.late (σ:St) (s:Nat):Bool:=
 match σ.calls.getD s none with
 |some c=>match c.k with|some k=>Cw.late k|none=>false
 |none=>false
def wr (σ:St) (s:Nat):K→Option (Nat×Nat)
 |.again e=>some (wslot (σ.x s (σ.c s).op.key).own 1,e)
 |.claim link w=>if σ.word (wslot link 1)=w then some (wslot link 1,mine (σ.t s)) else none
 |.slotB _ l _=>some (wslot l 0,mine (σ.t s))
 |.slotE _ l _=>some (wslot l 1,ever)
 |.push l h|.overN l h=>some (wslot l 2,h)
 |.pushC l h|.overC l h=>if σ.word (9+(σ.c s).op.key)=h then some (9+(σ.c s).op.key,l) else none
 |.drawH w _=>if σ.word (σ.place (lastOf w))=pack 1 0 then some (σ.place (lastOf w),pack 2 (timeOf w)) else none
 |.turn w now=>if σ.word 0=w then some (0,clockW (now+1) (σ.t s).id) else none
 |.helpJ=>if σ.word (σ.place (lastOf (clockW (σ.t s).end_ (σ.t s).id)))=pack 1 0 then some (σ.place (lastOf (clockW (σ.t s).end_ (σ.t s).id)),pack 2 (timeOf (clockW (σ.t s).end_ (σ.t s).id))) else none
 |.commit=>some (σ.place (σ.t s).id,pack 3 (σ.t s).end_)
 |.abort _ _=>some (σ.place (σ.t s).id,pack 4 (σ.t s).end_)
 |.turns [] _=>some (1+s,0)
 |.turns (x::_) _=>if x.old=0∨σ.word x.at_=x.old then some (x.at_,x.new) else none
 |_=>none
def setW (σ:St) (o:Option (Nat×Nat)):List Nat:=match o with|none=>σ.words|some (i,v)=>σ.words.set i v
section
variable {N L n s q d:Nat} {σ τ υ:St} {t:Txn} {c:Cal} {C:Nat→List Nat} {O O':Nat→Nat}
def Ws (σ τ:St):Prop:=τ.words=σ.words∧τ.slots=σ.slots
theorem Ws.refl (σ:St):Ws σ σ:=⟨rfl,rfl⟩
theorem Ws.trans (a:Ws σ τ) (b:Ws τ υ):Ws σ υ:=⟨b.1.trans a.1,b.2.trans a.2⟩
theorem scanN_ws (s:Nat):∀ (k:Nat) (τ:St) (key:Nat),Ws τ (scanN s k τ key).1:=by
 intro k
 induction k with
 |zero=>intro τ key;exact Ws.refl τ
 |succ k ih=>
  intro τ key;unfold scanN
  split
  · exact Ws.refl τ
  · split
    · split
      · exact Ws.trans ⟨rfl,rfl⟩ (ih _ _)
      · exact ih _ _
    · exact Ws.refl τ
theorem scan_ws (s:Nat) (τ:St) (key:Nat):Ws τ (τ.scan s key).1:=scanN_ws s _ τ key
theorem Ws.pre (b:Ws τ υ) (a:Ws σ τ):Ws σ υ:=a.trans b
theorem thn_ws (s:Nat) (τ:St) (h:Hunt) (link:Nat):Ws τ (τ.thn s h link).1:=by
 unfold St.thn
 split
 · simp only;split<;>exact⟨rfl,rfl⟩
 · simp only
   split
   · exact Ws.pre (scan_ws s _ _) ⟨rfl,rfl⟩
   · exact Ws.pre (scan_ws s _ _) ⟨rfl,rfl⟩
 · simp only
   split
   · exact⟨rfl,rfl⟩
   · split
     · exact⟨rfl,rfl⟩
     · split<;>exact⟨rfl,rfl⟩
 · try simp only
   split<;>exact⟨rfl,rfl⟩
theorem visit_ws (s:Nat) (τ:St) (h:Hunt) (link:Nat):Ws τ (τ.visit s h link).1:=by
 unfold St.visit;split
 · exact thn_ws s τ h 0
 · exact Ws.refl τ
theorem seen_ws (s:Nat) (τ:St) (h:Hunt) (link mb:Nat):Ws τ (τ.seen s h link mb).1:=by
 unfold St.seen;split
 · exact thn_ws s τ h link
 · exact Ws.refl τ
theorem bind_ws (s:Nat) (τ:St) (b:Nat):Ws τ (τ.bind s b):=by
 unfold St.bind;split<;>exact⟨rfl,rfl⟩
theorem take_slots (σ:St):σ.take.1.slots=σ.slots:=by
 have e:σ.list.slots=σ.slots:=by unfold St.list;split<;>rfl
 unfold St.take;simp only
 split<;>exact e
theorem slot_ws (s:Nat) (τ:St) (x:Bool) (link head:Nat):Ws τ (τ.slot s x link head).1:=by
 unfold St.slot
 by_cases h0:link=0
 · rw[if_pos h0]
   have e1:=take_words τ;have e2:=take_slots τ
   cases e:τ.take with
   |mk σ' o=>
    rw[e] at e1 e2
    cases o with
    |none=>exact⟨e1,e2⟩
    |some l=>exact⟨e1,e2⟩
 · rw[if_neg h0];exact⟨rfl,rfl⟩
theorem freeK_ws (s:Nat) (τ:St) (link head a:Nat):Ws τ (τ.freeK s link head a).1:=by
 unfold St.freeK;split
 · exact slot_ws s τ false link head
 · exact Ws.refl τ
theorem give_slots (σ:St) (l:Nat):(σ.give l).slots=σ.slots:=by
 unfold St.give
 split
 · simp only
   split<;>rfl
 · rfl
theorem lost_ws (τ:St) (link:Nat):Ws τ (τ.lost link).1:=by
 unfold St.lost;simp only
 split
 · exact⟨give_words τ link,give_slots τ link⟩
 · exact Ws.refl τ
theorem tellEnd_ws (τ:St) (s:Nat) (e:Ev):Ws τ (τ.tellEnd s e):=by
 unfold St.tellEnd;split<;>exact⟨rfl,rfl⟩
theorem cas_words (σ:St) (i o v:Nat):(σ.cas i o v).words=if σ.word i=o then σ.words.set i v else σ.words:=by unfold St.cas;split<;>rfl
theorem cas_slots (σ:St) (i o v:Nat):(σ.cas i o v).slots=σ.slots:=by unfold St.cas;split<;>rfl
theorem run_words (σ:St) (s:Nat) (k:K):(σ.run s k).1.words=setW σ (wr σ s k)∧(σ.run s k).1.slots=σ.slots:=by
 have tk:Ws σ σ.tick:=⟨rfl,rfl⟩
 cases k with
 |fin r=>exact⟨rfl,rfl⟩
 |start h=>exact tk.trans (visit_ws s σ.tick h _)
 |visit h l=>exact tk
 |maker h l id=>simp only[St.run];(split;exact tk;split<;>exact tk)
 |older h l=>exact tk.trans (visit_ws s σ.tick h _)
 |ended h l mb=>
  simp only[St.run]
  split
  · exact tk
  · split
    · exact tk.trans (seen_ws s σ.tick h l mb)
    · exact tk
 |ender h l mb id=>
  simp only[St.run]
  split
  · exact tk.trans (seen_ws s σ.tick h l mb)
  · split
    · exact tk.trans (bind_ws s σ.tick id)
    · exact tk
 |seen h l mb=>
  simp only[St.run]
  split
  · exact tk
  · split
    · exact (tk.trans (bind_ws s σ.tick mb)).trans (thn_ws s _ h l)
    · exact tk.trans (thn_ws s _ h l)
 |again e=>
  simp only[St.run]
  split<;>exact⟨rfl,rfl⟩
 |own l=>simp only[St.run];(split;exact tk;split<;>exact tk)
 |ownTxn l w id=>simp only[St.run];split<;>exact tk
 |claim l w=>
  simp only[St.run,wr]
  split
  · rename_i h
    try rw[if_neg h]
    exact⟨by rw[cas_words,if_neg h];rfl,cas_slots _ _ _ _⟩
  · rename_i h
    have h':σ.word (wslot l 1)=w:=Classical.byContradiction h
    try rw[if_pos h']
    have e1:(σ.cas (wslot l 1) w (mine (σ.t s))).words=setW σ (some (wslot l 1,mine (σ.t s))):=by rw[cas_words,if_pos h'];rfl
    split
    · exact⟨e1,cas_slots _ _ _ _⟩
    · have e2:Ws (σ.cas (wslot l 1) w (mine (σ.t s))) (((σ.cas (wslot l 1) w (mine (σ.t s))).takeKey s ((σ.cas (wslot l 1) w (mine (σ.t s))).c s).op.key ⟨0,l,false⟩).slot s true 0 0).1:=Ws.pre (slot_ws s _ true 0 0) ⟨rfl,rfl⟩
      exact⟨e2.1.trans e1,e2.2.trans (cas_slots _ _ _ _)⟩
 |fresh l=>exact tk.trans (freeK_ws s σ.tick l _ _)
 |next l h a=>exact tk.trans (freeK_ws s σ.tick l _ _)
 |free l h a=>
  simp only[St.run]
  split
  · exact tk
  · split
    · exact tk.trans (lost_ws σ.tick l)
    · exact tk
 |freeTxn l h a id=>
  simp only[St.run]
  split
  · exact tk
  · exact tk.trans (lost_ws σ.tick l)
 |slotB x l h=>exact⟨rfl,rfl⟩
 |slotE x l h=>exact⟨rfl,rfl⟩
 |push l h=>exact⟨rfl,rfl⟩
 |pushC l h=>
  simp only[St.run,wr]
  split
  · rename_i e
    try rw[if_neg e]
    exact⟨by rw[cas_words,if_neg e];rfl,cas_slots _ _ _ _⟩
  · rename_i e
    have e':σ.word (9+(σ.c s).op.key)=h:=Classical.byContradiction e
    try rw[if_pos e']
    exact⟨by show (σ.cas _ _ _).words=_;rw[cas_words,if_pos e'];rfl,cas_slots _ _ _ _⟩
 |over l=>exact tk
 |overN l h=>exact⟨rfl,rfl⟩
 |overC l h=>
  simp only[St.run,wr]
  split
  · rename_i e
    try rw[if_neg e]
    exact⟨by rw[cas_words,if_neg e];rfl,cas_slots _ _ _ _⟩
  · rename_i e
    have e':σ.word (9+(σ.c s).op.key)=h:=Classical.byContradiction e
    try rw[if_pos e']
    exact⟨by show (σ.cas _ _ _).words=_;rw[cas_words,if_pos e'];rfl,cas_slots _ _ _ _⟩
 |draw=>simp only[St.run];(split;exact tk;split<;>exact tk)
 |drawH w now=>
  simp only[St.run,wr,St.help];refine⟨?_,cas_slots _ _ _ _⟩;rw[cas_words]
  split<;>rfl
 |turn w now=>
  simp only[St.run,wr]
  split
  · rename_i e
    try rw[if_neg e]
    exact⟨by rw[cas_words,if_neg e];rfl,cas_slots _ _ _ _⟩
  · rename_i e
    have e':σ.word 0=w:=Classical.byContradiction e
    try rw[if_pos e']
    exact⟨by show (σ.cas _ _ _).words=_;rw[cas_words,if_pos e'];rfl,cas_slots _ _ _ _⟩
 |helpJ=>
  simp only[St.run,wr,St.help];refine⟨?_,cas_slots _ _ _ _⟩;rw[cas_words]
  split<;>rfl
 |wait i=>simp only[St.run];(split;exact tk;split<;>exact tk)
 |commit=>exact⟨(tellEnd_ws _ s _).1,(tellEnd_ws _ s _).2⟩
 |abort e r=>exact⟨(tellEnd_ws _ s _).1,(tellEnd_ws _ s _).2⟩
 |turns l r=>
  cases l with
  |nil=>exact⟨rfl,rfl⟩
  |cons x l=>
   simp only[St.run,wr]
   by_cases h0:x.old=0
   · rw[if_pos h0,if_pos (.inl h0)];exact⟨rfl,rfl⟩
   · rw[if_neg h0]
     by_cases h1:σ.word x.at_=x.old
     · rw[if_pos (.inr h1)];exact⟨by rw[cas_words,if_pos h1];rfl,cas_slots _ _ _ _⟩
     · rw[if_neg (by rintro (a|a);exact h0 a;exact h1 a)];exact⟨by rw[cas_words,if_neg h1];rfl,cas_slots _ _ _ _⟩
end
def cnt (t:Txn) (key:Nat):Nat:=t.reads.countP (fun r=>r.1==key)
def pendH (h:Hunt) (key:Nat):Nat:=
 match h.thn with
 |.scan _=>if h.key≤key then 1 else 0
 |.judge _ _=>0
 |_=>if key=h.key then 1 else 0
def pend (key:Nat):K→Nat
 |.start h|.visit h _|.maker h _ _|.ended h _ _|.ender h _ _ _|.older h _=>pendH h key
 |.seen h _ mb=>pendH h key+if mb=0 then 13 else 0
 |.turns l _=>if 192<l.length then 13 else 0
 |_=>0
structure TL (t:Txn) (p:Nat→Nat):Prop where
 mul:∀ key,cnt t key+p key≤t.ops
 kd:t.keys.Nodup
 kl:∀ key∈t.keys,key<64
structure Ef (N:Nat) (σ τ:St) (O:Nat→Nat) (a b p h k0:Nat):Prop where
 sl:τ.slots=σ.slots
 ck:τ.word 0=σ.word 0∨a=1
 en:∀ l,LK N l→τ.word (wslot l 1)=σ.word (wslot l 1)∨b=1
 st:∀ id,id≤2000→stateOf (τ.word (τ.place id))=4→stateOf (σ.word (σ.place id))=4∨p=1
 hd:∀ key,key<64→τ.word (9+key)=σ.word (9+key)∨h=1
 dh:∀ key,key<64→τ.Dh key≤σ.Dh key+(if key=k0 then h else 0)
 nx:∀ x,LK N x→(1≤O (slotOf x)∧O (slotOf x)≤64)∨O (slotOf x)=200→τ.word (wslot x 2)=σ.word (wslot x 2)
section
variable {N L n s q cq d:Nat} {σ τ υ:St} {t:Txn} {c:Cal} {C:Nat→List Nat} {O O':Nat→Nat} {a b p h k0:Nat}
theorem Ef.cost (e:Ef N σ τ O a b p h k0) {key:Nat} (hk:key<64):τ.cost key≤σ.cost key+6*(if key=k0 then h else 0):=by
 have:=e.dh key hk;unfold St.cost;omega
theorem Ef.judge (e:Ef N σ τ O a b p h k0) (hh:h≤1):∀ (l:List (Nat×Nat×Bool)),(∀ r∈l,r.1<64)→τ.judgeC l≤σ.judgeC l+6*(h*l.countP (fun r=>r.1==k0)):=by
 intro l
 induction l with
 |nil=>intro _;exact Nat.zero_le _
 |cons r l ih=>
  intro hl;have h1:=ih (fun r hr=>hl r (List.mem_cons_of_mem _ hr));have h2:=e.cost (hl r List.mem_cons_self);unfold St.judgeC at h1 ⊢;rw[List.map_cons,List.map_cons,List.sum_cons,List.sum_cons,List.countP_cons]
  by_cases hr:r.1=k0
  · rw[if_pos hr] at h2
    rw[show (r.1==k0)=true by simpa using hr,if_pos rfl,Nat.mul_add];omega
  · rw[if_neg hr] at h2
    rw[show (r.1==k0)=false by simpa using hr,if_neg (by decide),Nat.mul_add];omega
theorem Ef.scan (e:Ef N σ τ O a b p h k0):∀ (m k:Nat),k+m≤64→τ.scanC m k≤σ.scanC m k+12*(if k≤k0 then h else 0):=by
 intro m
 induction m with
 |zero=>intro k _;exact Nat.zero_le _
 |succ m ih=>
  intro k hk;have h1:=ih (k+1) (by omega);have h2:=e.cost (key:=k) (by omega);unfold St.scanC
  split at h1<;>split at h2<;>split<;>omega
theorem Ef.judge72 (e:Ef N σ τ O a b p h k0) (hh:h≤1) {l:List (Nat×Nat×Bool)} (hl:∀ r∈l,r.1<64) (hc:l.countP (fun r=>r.1==k0)≤12):τ.judgeC l≤σ.judgeC l+72*h:=by
 have h1:=e.judge hh l hl;have h2:h*l.countP (fun r=>r.1==k0)≤h*12:=Nat.mul_le_mul_left _ hc;omega
theorem Ef.sg (e:Ef N σ τ O a b p h k0) {mb:Nat} (hm:mb≤2000):τ.sg N mb≤σ.sg N mb+(6*N+10)*p:=by
 unfold St.sg
 by_cases h1:mb≠0∧stateOf (τ.word (τ.place mb))=4
 · rw[if_pos h1]
   rcases e.st mb hm h1.2 with h2|h2
   · rw[if_pos ⟨h1.1,h2⟩];omega
   · rw[h2];omega
 · rw[if_neg h1];exact Nat.zero_le _
theorem st_le {i v x m:Nat} (h:τ.word i=σ.word i∨m=1):τ.st i v x≤σ.st i v x+x*m:=by
 unfold St.st
 rcases h with h|h
 · rw[h];omega
 · subst h
   split<;>split<;>omega
theorem Ef.after (e:Ef N σ τ O a b p h k0) (hh:h≤1) {hu:Hunt} (hk:HuntOk t c hu) (hr:∀ r∈t.reads,r.1<64) (hc:cnt t k0≤12):τ.afterH t c hu≤σ.afterH t c hu+90*h:=by
 have hJ:=e.judge72 hh hr hc;have hC:=e.cost hk.1;have hCs:(if hu.key=k0 then h else 0)≤h:=by split<;>omega
 unfold St.afterH;have h2:=hk.2
 split at h2
 · rename_i e1;simp only[e1];omega
 · rename_i k e1
   simp only[e1];have:=e.scan (c.op.hi - k) (k+1) (by have:=hk.1;omega);have h3:(if k+1≤k0 then h else 0)≤h:=by split<;>omega
   omega
 · rename_i e1;simp only[e1];omega
 · rename_i i l e1
   simp only[e1];have:=e.judge72 hh (l:=t.reads.drop (i+1)) (fun r hr'=>hr r (List.mem_of_mem_drop hr')) (Nat.le_trans (List.Sublist.countP_le (List.drop_sublist _ _)) hc);omega
theorem Ef.dn (e:Ef N σ τ O a b p h k0) (hN:N≤256) {l:Nat} (hp:Path N σ O cq l) (hl:LK N l):τ.Dn l=σ.Dn l:=(hp.Dto hN e.nx).2 hl.ne
set_option maxHeartbeats 1600000 in
theorem Ef.remK (e:Ef N σ τ O a b p h k0) (hh:h≤1) (hN:N≤256) (hT:TX N L n t) {k:K} (hk:KOk N L t c k) (hp:Pv N σ O s cq k) (hc:cnt t k0≤12):τ.remK N t c k≤σ.remK N t c k+3*a+8*b+(6*N+10)*p+(3*N+120)*h:=by
 have hJ:=e.judge72 hh hT.rd hc;have hA:∀ {hu:Hunt},HuntOk t c hu→τ.afterH t c hu≤σ.afterH t c hu+90*h:=fun hu=>e.after hh hu hT.rd hc
 have h1:(3*N+120)*h=(3*N)*h+120*h:=Nat.add_mul _ _ _;have h2:(3*N+20)*h=(3*N)*h+20*h:=Nat.add_mul _ _ _
 cases k with
 |fin r=>simp only[St.remK];omega
 |start hu=>
  have:=hA hk;have:=e.cost hk.1;have:(if hu.key=k0 then h else 0)≤h:=by split<;>omega
  simp only[St.remK];omega
 |visit hu l=>have:=hA hk.1;have:=e.dn hN hp hk.2;simp only[St.remK];omega
 |maker hu l id=>have:=hA hk.1;have:=e.dn hN hp hk.2.1;simp only[St.remK];omega
 |older hu l=>have:=hA hk.1;have:=e.dn hN hp hk.2;simp only[St.remK];omega
 |ended hu l mb=>have:=hA hk.1;have:=e.dn hN hp hk.2.1;have:=e.sg hk.2.2;simp only[St.remK];omega
 |ender hu l mb id=>have:=hA hk.1;have:=e.dn hN hp hk.2.1;have:=e.sg hk.2.2.1;simp only[St.remK];omega
 |seen hu l mb=>have:=hA hk.1;have:=e.dn hN hp hk.2.1;have:=e.sg hk.2.2;simp only[St.remK];omega
 |again en=>simp only[St.remK];omega
 |own l=>simp only[St.remK];omega
 |ownTxn l w id=>have:=st_le (v:=w) (x:=8) (e.en l hk.1);simp only[St.remK];omega
 |claim l w=>have:=st_le (v:=w) (x:=8) (e.en l hk.1);simp only[St.remK];omega
 |fresh l=>
  have:=e.dh c.op.key hk.2.2;have:(if c.op.key=k0 then h else 0)≤h:=by split<;>omega
  simp only[St.remK];omega
 |next l head at_=>
  have:=st_le (v:=head) (x:=3*N+20) (e.hd c.op.key hk.2.2.2.2);have:=e.dn hN hp.2 hk.2.2.1;simp only[St.remK];omega
 |free l head at_=>
  have:=st_le (v:=head) (x:=3*N+20) (e.hd c.op.key hk.2.2.2.2);have:=e.dn hN hp.2 hk.2.2.1;simp only[St.remK];omega
 |freeTxn l head at_ id=>
  have:=st_le (v:=head) (x:=3*N+20) (e.hd c.op.key hk.2.2.2.2.2);have:=e.dn hN hp.2 hk.2.2.1;simp only[St.remK];omega
 |slotB x l head=>
  have:=st_le (v:=head) (x:=3*N+20) (e.hd c.op.key hk.2.1);simp only[St.remK]
  cases x<;>simp<;>omega
 |slotE x l head=>
  have:=st_le (v:=head) (x:=3*N+20) (e.hd c.op.key hk.2.1);simp only[St.remK]
  cases x<;>simp<;>omega
 |push l head=>have:=st_le (v:=head) (x:=3*N+20) (e.hd c.op.key hk.2.2.2);simp only[St.remK];omega
 |pushC l head=>have:=st_le (v:=head) (x:=3*N+20) (e.hd c.op.key hk.2.2.2);simp only[St.remK];omega
 |over l=>simp only[St.remK];omega
 |overN l head=>have:=st_le (v:=head) (x:=8) (e.hd c.op.key hk.2.2.2);simp only[St.remK];omega
 |overC l head=>have:=st_le (v:=head) (x:=8) (e.hd c.op.key hk.2.2.2);simp only[St.remK];omega
 |draw=>simp only[St.remK];omega
 |drawH w now=>have:=st_le (v:=w) (x:=3) e.ck;simp only[St.remK];omega
 |turn w now=>have:=st_le (v:=w) (x:=3) e.ck;simp only[St.remK];omega
 |helpJ=>simp only[St.remK];omega
 |wait i=>exact Nat.zero_le _
 |commit=>exact Nat.zero_le _
 |abort e r=>exact Nat.zero_le _
 |turns l r=>exact Nat.zero_le _
theorem Ef.budK (e:Ef N σ τ O a b p h k0) {k:K} (hk:KOk N L t c k):τ.budK N c k≤σ.budK N c k+8*h:=by
 have hst:∀ head,c.op.key<64→τ.st (9+c.op.key) head 8≤σ.st (9+c.op.key) head 8+8*h:=fun head hh=>st_le (e.hd _ hh)
 unfold St.budK
 cases k with
 |next l head at_=>have:=hst head hk.2.2.2.2;simp only[St.xs];omega
 |free l head at_=>have:=hst head hk.2.2.2.2;simp only[St.xs];omega
 |freeTxn l head at_ id=>have:=hst head hk.2.2.2.2.2;simp only[St.xs];omega
 |slotB x l head=>have:=hst head hk.2.1;simp only[St.xs];cases x<;>simp<;>omega
 |slotE x l head=>have:=hst head hk.2.1;simp only[St.xs];cases x<;>simp<;>omega
 |push l head=>have:=hst head hk.2.2.2;simp only[St.xs];omega
 |pushC l head=>have:=hst head hk.2.2.2;simp only[St.xs];omega
 |_=>exact Nat.le_add_right _ _
theorem plen_congr (e:τ.words=σ.words):∀ (m l:Nat),plen τ m l=plen σ m l:=by
 intro m
 induction m with
 |zero=>intro l;rfl
 |succ m ih=>
  intro l;unfold plen;have:τ.word (wslot l 2)=σ.word (wslot l 2):=by unfold St.word;rw[e]
  rw[this,ih]
theorem Ws.word (e:Ws σ τ) (i:Nat):τ.word i=σ.word i:=by unfold St.word;rw[e.1]
theorem Ws.D (e:Ws σ τ) (l:Nat):τ.D l=σ.D l:=plen_congr e.1 300 l
theorem Ws.Dh (e:Ws σ τ) (key:Nat):τ.Dh key=σ.Dh key:=by unfold St.Dh;rw[e.word,e.D]
theorem Ws.Dn (e:Ws σ τ) (l:Nat):τ.Dn l=σ.Dn l:=by unfold St.Dn;rw[e.word,e.D]
theorem Ws.cost (e:Ws σ τ) (key:Nat):τ.cost key=σ.cost key:=by unfold St.cost;rw[e.Dh]
theorem Ws.judgeC (e:Ws σ τ) (l:List (Nat×Nat×Bool)):τ.judgeC l=σ.judgeC l:=by
 unfold St.judgeC
 congr 1
 exact List.map_congr_left (fun r _=>e.cost r.1)
theorem Ws.scanC (e:Ws σ τ):∀ (m k:Nat),τ.scanC m k=σ.scanC m k:=by
 intro m
 induction m with
 |zero=>intro k;rfl
 |succ m ih=>intro k;unfold St.scanC;rw[e.cost,ih]
theorem Ws.afterH (e:Ws σ τ) (t:Txn) (c:Cal) (h:Hunt):τ.afterH t c h=σ.afterH t c h:=by
 unfold St.afterH
 split<;>simp only[e.cost,e.judgeC,e.scanC]
theorem Ws.place (e:Ws σ τ) (id:Nat):τ.place id=σ.place id:=by unfold St.place;rw[e.2]
theorem Ws.sg (e:Ws σ τ) (N mb:Nat):τ.sg N mb=σ.sg N mb:=by unfold St.sg;rw[e.place,e.word]
theorem Ws.st (e:Ws σ τ) (i v x:Nat):τ.st i v x=σ.st i v x:=by unfold St.st;rw[e.word]
theorem Ws.remK (e:Ws σ τ) (N:Nat) (t:Txn) (c:Cal) (k:K):τ.remK N t c k=σ.remK N t c k:=by
 cases k<;>simp only[St.remK,e.cost,e.judgeC,e.afterH,e.Dn,e.Dh,e.sg,e.st]
theorem Ws.budK (e:Ws σ τ) (N:Nat) (c:Cal) (k:K):τ.budK N c k=σ.budK N c k:=by
 unfold St.budK
 cases k<;>simp only[St.xs,e.st]
end
def wa (σ:St) (s:Nat):K→Nat
 |.turn w _=>if σ.word 0=w then 1 else 0
 |_=>0
def wb (σ:St) (s:Nat):K→Nat
 |.again _|.slotE _ _ _|.turns (_::_) _=>1
 |.claim l w=>if σ.word (wslot l 1)=w then 1 else 0
 |_=>0
def wp (σ:St) (s:Nat):K→Nat
 |.abort _ _=>1
 |_=>0
def wh (σ:St) (s:Nat):K→Nat
 |.pushC _ h|.overC _ h=>if σ.word (9+(σ.c s).op.key)=h then 1 else 0
 |_=>0
section
variable {N L n s q cq d:Nat} {σ τ υ:St} {t:Txn} {c:Cal} {C:Nat→List Nat} {O O':Nat→Nat} {a b p h k0:Nat}
theorem word_of (e:τ.words=σ.words) (i:Nat):τ.word i=σ.word i:=by unfold St.word;rw[e]
theorem word_of' {i v:Nat} (e:τ.words=σ.words.set i v) (j:Nat) (hj:j≠i):τ.word j=σ.word j:=by
 unfold St.word;rw[e,word_set,if_neg (fun x=>hj x.1)]
theorem word_at {i v:Nat} (e:τ.words=σ.words.set i v) (hi:i<σ.words.length):τ.word i=v:=by
 unfold St.word;rw[e,word_set,if_pos ⟨rfl,hi⟩]
theorem Chain.onHead (h:CS N σ C O) (hN:N≤256) {key:Nat} (hk:key<64) (hh:τ.word (9+key)=σ.word (9+key)) (hn:∀ x,LK N x→(1≤O (slotOf x)∧O (slotOf x)≤64)∨O (slotOf x)=200→τ.word (wslot x 2)=σ.word (wslot x 2)):τ.Dh key=σ.Dh key:=by
 have h1:=(h.Dh hN hk).1;rw[h1];unfold St.Dh;rw[hh];refine (chain_len hN ((h.ch key hk).cong (fun x hx=>hn x (h.lo key hk x hx).1 (.inl ?_))) (fun x hx=>(h.lo key hk x hx).1)).2;have:=(h.lo key hk x hx).2;omega
theorem ef_none (e:τ.words=σ.words) (es:τ.slots=σ.slots):Ef N σ τ O a b p h k0:=by
 have ep:∀ id,τ.place id=σ.place id:=fun id=>by unfold St.place;rw[es]
 have w:Ws σ τ:=⟨e,es⟩
 exact⟨es,.inl (word_of e _),fun l _=>.inl (word_of e _),fun id _ h4=>.inl (by rw[←ep,←word_of e];exact h4),fun k _=>.inl (word_of e _),fun k _=>by rw[w.Dh];omega,fun x _ _=>word_of e _⟩
theorem ef_one (hcs:CS N σ C O) (hs:Sh N L n σ) {i v:Nat} (e:τ.words=σ.words.set i v) (es:τ.slots=σ.slots) (h1:¬ (9≤i∧i<73)) (h2:∀ x,LK N x→(1≤O (slotOf x)∧O (slotOf x)≤64)∨O (slotOf x)=200→wslot x 2≠i)
 (ha:i=0→a=1) (hb:∀ l,LK N l→wslot l 1=i→b=1) (hp:∀ id,id≤2000→73+N*3+id=i→stateOf v=4→p=1):Ef N σ τ O a b p h k0:=by
 have ep:∀ id,τ.place id=73+N*3+id:=fun id=>by unfold St.place;rw[es,hs.sl]
 have ep':∀ id,σ.place id=73+N*3+id:=fun id=>by unfold St.place;rw[hs.sl]
 refine⟨es,?_,fun l hl=>?_,fun id hid h4=>?_,fun k hk=>.inl ?_,fun k hk=>?_,fun x hx ho=>word_of' e _ (h2 x hx ho)⟩
 · by_cases h0:i=0
   · exact .inr (ha h0)
   · exact .inl (word_of' e _ (fun x=>h0 x.symm))
 · by_cases h0:wslot l 1=i
   · exact .inr (hb l hl h0)
   · exact .inl (word_of' e _ h0)
 · by_cases h0:73+N*3+id=i
   · refine .inr (hp id hid h0 ?_)
     rw[ep,h0,word_at e (by have:=hs.nw;omega)] at h4;exact h4
   · rw[ep,word_of' e _ h0] at h4
     rw[ep'];exact .inl h4
 · exact word_of' e _ (by omega)
 · rw[Chain.onHead hcs hs.n1 hk (word_of' e _ (by omega)) (fun x hx ho=>word_of' e _ (h2 x hx ho))]
   omega
theorem ef_head (hcs:CS N σ C O) (hs:Sh N L n σ) {key link:Nat} (hk:key<64) (hl:LK N link) (ho:64<O (slotOf link)) (hn:σ.word (wslot link 2)=σ.word (9+key)) (e:τ.words=σ.words.set (9+key) link) (es:τ.slots=σ.slots):Ef N σ τ O a b p 1 key:=by
 have ep:∀ id,τ.place id=73+N*3+id:=fun id=>by unfold St.place;rw[es,hs.sl]
 have ep':∀ id,σ.place id=73+N*3+id:=fun id=>by unfold St.place;rw[hs.sl]
 have hw:∀ x,τ.word (wslot x 2)=σ.word (wslot x 2):=fun x=>word_of' e _ (by unfold wslot;omega)
 refine⟨es,.inl (word_of' e _ (by omega)),fun l _=>.inl (word_of' e _ (by unfold wslot;omega)),fun id _ h4=>.inl ?_,fun k _=>.inr rfl,fun k hk'=>?_,fun x _ _=>hw x⟩
 · rw[ep,word_of' e _ (by omega)] at h4
   rw[ep'];exact h4
 · by_cases hkk:k=key
   · subst hkk
     rw[if_pos rfl];have h1:=(hcs.Dh hs.n1 hk).1;have hc:Chain τ (τ.word (9+k)) (link::C k):=by
      rw[word_at e (by have:=hs.nw;omega)];refine⟨rfl,hl.ne,?_⟩;rw[hw,hn];exact (hcs.ch k hk).cong (fun x _=>hw x)
     have h2 := (chain_len hs.n1 hc (fun x hx => by
       rcases List.mem_cons.1 hx with rfl|hx
       · exact hl
       · exact (hcs.lo k hk x hx).1)).2
     unfold St.Dh at h1 ⊢;rw[h2,h1];simp
   · rw[if_neg hkk,Chain.onHead hcs hs.n1 hk' (word_of' e _ (by omega)) (fun x _ _=>hw x)]
     exact Nat.le_refl _
theorem slotNo {l x w:Nat} (hw:w<2):wslot x 2≠wslot l w:=by unfold wslot;omega
theorem slotNo' {l x:Nat} (h:¬ slotOf x=slotOf l):wslot x 2≠wslot l 2:=by unfold wslot;omega
set_option maxHeartbeats 1600000 in
theorem run_ef (hcs:CS N σ C O) (m:Mid N L n s 0 σ σ t c) {k:K} (hk:KOk N L t c k) (hpv:Pv N σ O s cq k):Ef N σ (σ.run s k).1 O (wa σ s k) (wb σ s k) (wp σ s k) (wh σ s k) c.op.key:=by
 have et:=m.et;have ec:=m.ec;have hs:=m.sh;obtain⟨e1,e2⟩:=run_words σ s k;have hN:=hs.n1;have pl:∀ id,σ.place id=73+N*3+id:=fun id=>hs.place id
 have hlk:∀ {l},LK N l→slotOf l<N:=fun hl=>hl.slotOf
 have quiet:wr σ s k=none→Ef N σ (σ.run s k).1 O (wa σ s k) (wb σ s k) (wp σ s k) (wh σ s k) c.op.key:=fun e=>ef_none (by rw[e1,e];rfl) e2
 have one:∀ {i v},wr σ s k=some (i,v)→¬ (9≤i∧i<73)→(∀ x,LK N x→(1≤O (slotOf x)∧O (slotOf x)≤64)∨O (slotOf x)=200→wslot x 2≠i)→(i=0→wa σ s k=1)→(∀ l,LK N l→wslot l 1=i→wb σ s k=1)→(∀ id,id≤2000→73+N*3+id=i→stateOf v=4→wp σ s k=1)→Ef N σ (σ.run s k).1 O (wa σ s k) (wb σ s k) (wp σ s k) (wh σ s k) c.op.key:=by
  intro i v e a1 a2 a3 a4 a5;exact ef_one hcs hs (by rw[e1,e];rfl) e2 a1 a2 a3 a4 a5
 have inslot:∀ {l w},LK N l→w<2→∀ v,wr σ s k=some (wslot l w,v)→(w=1→wb σ s k=1)→Ef N σ (σ.run s k).1 O (wa σ s k) (wb σ s k) (wp σ s k) (wh σ s k) c.op.key:=by
  intro l w hl hw v e hb;have:=hlk hl;refine one e (by unfold wslot;omega) (fun x _ _=>slotNo hw) (fun x=>by unfold wslot at x;omega) (fun l' _ x=>?_) (fun id _ x=>by unfold wslot at x;omega);unfold wslot at x;exact hb (by omega)
 have innext:∀ {l},LK N l→O (slotOf l)=100+s→∀ v,wr σ s k=some (wslot l 2,v)→Ef N σ (σ.run s k).1 O (wa σ s k) (wb σ s k) (wp σ s k) (wh σ s k) c.op.key:=by
  intro l hl ho v e;have:=hlk hl;have:=m.s8;refine one e (by unfold wslot;omega) (fun x _ hx=>slotNo' (fun x=>by rw[x] at hx;omega)) (fun x=>by unfold wslot at x;omega) (fun l' _ x=>?_) (fun id _ x=>by unfold wslot at x;omega);unfold wslot at x;omega
 have inplace:∀ {id v},(stateOf v=4→wp σ s k=1)→wr σ s k=some (σ.place id,v)→Ef N σ (σ.run s k).1 O (wa σ s k) (wb σ s k) (wp σ s k) (wh σ s k) c.op.key:=by
  intro id v h4 e;rw[pl] at e;refine one e (by omega) (fun x hx _=>by have:=hlk hx;unfold wslot;omega) (fun x=>by omega) (fun l' hl x=>by have:=hlk hl;unfold wslot at x;omega) (fun id' _ x=>h4)
 have stp:∀ x e,x<8→stateOf (pack x e)=x:=fun x e hx=>by unfold stateOf pack;omega
 cases k with
 |fin r=>exact quiet rfl
 |start h=>exact quiet rfl
 |visit h l=>exact quiet rfl
 |older h l=>exact quiet rfl
 |maker h l id=>exact quiet rfl
 |ended h l mb=>exact quiet rfl
 |ender h l mb id=>exact quiet rfl
 |seen h l mb=>exact quiet rfl
 |again e=>
  obtain⟨h1,h2,x,hx,hxo⟩:=hk;refine inslot (l:=(σ.x s (σ.c s).op.key).own) (w:=1) ?_ (by omega) _ rfl (fun _=>rfl);have ex:σ.x s c.op.key=x:=by unfold St.x;rw[et,hx];rfl
  rw[ec,ex];exact hxo
 |own l=>exact quiet rfl
 |ownTxn l w id=>exact quiet rfl
 |claim l w=>
  by_cases hw:σ.word (wslot l 1)=w
  · exact inslot (l:=l) (w:=1) hk.1 (by omega) _ (by simp only[wr];rw[if_pos hw]) (fun _=>by simp only[wb];rw[if_pos hw])
  · exact quiet (by simp only[wr];rw[if_neg hw])
 |fresh l=>exact quiet rfl
 |next l h a=>exact quiet rfl
 |free l h a=>exact quiet rfl
 |freeTxn l h a id=>exact quiet rfl
 |slotB x l h=>exact inslot hk.1 (by omega) _ rfl (fun e=>by cases e)
 |slotE x l h=>exact inslot hk.1 (by omega) _ rfl (fun _=>rfl)
 |push l h=>exact innext hk.1 hpv _ rfl
 |overN l h=>exact innext hk.1 hpv _ rfl
 |over l=>exact quiet rfl
 |pushC l h=>
  by_cases hw:σ.word (9+(σ.c s).op.key)=h
  · have ew:wh σ s (.pushC l h)=1:=by simp only[wh];rw[if_pos hw]
    rw[ew];have hw':=hw;rw[ec] at hw';exact ef_head hcs hs hk.2.2.2 hk.1 (by have:=hpv.1;omega) (by rw[hpv.2,hw']) (by rw[e1];simp only[wr];rw[if_pos hw,ec];rfl) e2
  · exact quiet (by simp only[wr];rw[if_neg hw])
 |overC l h=>
  by_cases hw:σ.word (9+(σ.c s).op.key)=h
  · have ew:wh σ s (.overC l h)=1:=by simp only[wh];rw[if_pos hw]
    rw[ew];have hw':=hw;rw[ec] at hw';exact ef_head hcs hs hk.2.2.2 hk.1 (by have:=hpv.1;omega) (by rw[hpv.2,hw']) (by rw[e1];simp only[wr];rw[if_pos hw,ec];rfl) e2
  · exact quiet (by simp only[wr];rw[if_neg hw])
 |draw=>exact quiet rfl
 |drawH w now=>
  by_cases hw:σ.word (σ.place (lastOf w))=pack 1 0
  · have e:wr σ s (.drawH w now)=some (σ.place (lastOf w),pack 2 (timeOf w)):=if_pos hw
    exact inplace (fun h4=>by rw[stp 2 _ (by omega)] at h4;omega) e
  · exact quiet (by simp only[wr];rw[if_neg hw])
 |turn w now=>
  by_cases hw:σ.word 0=w
  · refine one (i:=0) (by simp only[wr];rw[if_pos hw]) (by omega) (fun x hx _=>by unfold wslot;omega) (fun _=>by simp only[wa];rw[if_pos hw]) (fun l _ x=>by unfold wslot at x;omega) (fun id _ x=>by omega)
  · exact quiet (by simp only[wr];rw[if_neg hw])
 |helpJ=>
  by_cases hw:σ.word (σ.place (lastOf (clockW (σ.t s).end_ (σ.t s).id)))=pack 1 0
  · have e:wr σ s .helpJ=some (σ.place (lastOf (clockW (σ.t s).end_ (σ.t s).id)),pack 2 (timeOf (clockW (σ.t s).end_ (σ.t s).id))):=if_pos hw
    exact inplace (fun h4=>by rw[stp 2 _ (by omega)] at h4;omega) e
  · exact quiet (by simp only[wr];rw[if_neg hw])
 |wait i=>exact quiet rfl
 |commit=>exact inplace (fun h4=>by rw[stp 3 _ (by omega)] at h4;omega) rfl
 |abort e r=>exact inplace (fun _=>rfl) rfl
 |turns l r=>
  cases l with
  |nil=>
   have:=m.s8;exact one (i:=1+s) rfl (by omega) (fun x _ _=>by unfold wslot;omega) (fun x=>by omega) (fun l _ x=>by unfold wslot at x;omega) (fun id _ x=>by omega)
  |cons x l=>
   by_cases hw:x.old=0∨σ.word x.at_=x.old
   · have hp:¬ Pl N x.at_:=hpv x List.mem_cons_self
     have hr:=(hk.2.2 x List.mem_cons_self).2;refine one (i:=x.at_) (by simp only[wr];rw[if_pos hw]) (by omega) (fun y hy _ e=>hp (by rw[←e];exact Pl.next hy)) (fun e=>by omega) (fun l' _ e=>rfl) (fun id _ e=>by omega)
   · exact quiet (by simp only[wr];rw[if_neg hw])
end
def Less (N L n s d:Nat) (σ υ:St) (b B:Nat) (r:St×K):Prop:=∃ t c,Mid N L n s d σ r.1 t c∧υ.remK N t c r.2≤b∧υ.budK N c r.2≤B∧TL t (fun key=>pend key r.2)
section
variable {N L n s q cq d b b' B B':Nat} {σ τ υ:St} {t:Txn} {c:Cal} {C:Nat→List Nat} {O O':Nat→Nat} {p p':Nat→Nat}
theorem Less.le {r:St×K} (h:Less N L n s d σ υ b B r) (hb:b≤b') (hB:B≤B'):Less N L n s d σ υ b' B' r:=by
 obtain⟨t,c,m,h1,h2,h3⟩:=h;exact⟨t,c,m,Nat.le_trans h1 hb,Nat.le_trans h2 hB,h3⟩
theorem TL.mono (h:TL t p) (hp:∀ k,p' k≤p k):TL t p':=⟨fun k=>by have:=h.mul k;have:=hp k;omega,h.kd,h.kl⟩
theorem cnt_app (t:Txn) (key link:Nat) (got:Bool) (k:Nat):cnt {t with reads:=t.reads++[(key,link,got)]} k=cnt t k+if key=k then 1 else 0:=by
 unfold cnt;show (t.reads++[(key,link,got)]).countP _=_;rw[List.countP_append,List.countP_cons,List.countP_nil]
 by_cases e:key=k
 · simp[e]
 · simp[e]
theorem TL.read (h:TL t p) {key link:Nat} {got:Bool} (hp:∀ k,p' k+(if key=k then 1 else 0)≤p k):TL {t with reads:=t.reads++[(key,link,got)]} p':=
 ⟨fun k=>by rw[cnt_app];have:=h.mul k;have:=hp k;show _≤t.ops;omega,h.kd,h.kl⟩
theorem judgeC_app (υ:St) (l:List (Nat×Nat×Bool)) (r:Nat×Nat×Bool):υ.judgeC (l++[r])=υ.judgeC l+υ.cost r.1:=by
 unfold St.judgeC;rw[List.map_append,List.sum_append];simp
theorem judgeC_drop (υ:St) (l:List (Nat×Nat×Bool)) (k:Nat):υ.judgeC (l.drop k)≤υ.judgeC l:=by
 have:υ.judgeC l=υ.judgeC (l.take k)+υ.judgeC (l.drop k):=by
  conv=>lhs;rw[←List.take_append_drop k l]
  unfold St.judgeC;rw[List.map_append,List.sum_append]
 omega
theorem judgeC_drop2 (υ:St) (l:List (Nat×Nat×Bool)) {i j:Nat} (h:i≤j):υ.judgeC (l.drop j)≤υ.judgeC (l.drop i):=by
 have:=judgeC_drop υ (l.drop i) (j - i);rw[List.drop_drop,show i+(j - i)=j by omega] at this;exact this
theorem need_ge (t:Txn):∀ (k i:Nat),i≤t.need k i
 |0,i=>Nat.le_refl _
 |k+1,i=>by
  unfold Txn.need
  split
  · have:=need_ge t k (i+1);omega
  · exact Nat.le_refl _
theorem judgeK_less (υ:St) (hT:TX N L n t) {i:Nat} (hi:i≤t.reads.length) (tl:TL t (fun _=>0)):υ.remK N t c (judgeK t i)≤υ.judgeC (t.reads.drop i)∧υ.budK N c (judgeK t i)≤6*N+1610∧TL t (fun key=>pend key (judgeK t i)):=by
 unfold judgeK;simp only;have h1:=(need_le t (t.reads.length - i) i hi).1;have h2:=need_ge t (t.reads.length - i) i;generalize t.need (t.reads.length - i) i=j at h1 h2
 split
 · unfold waitK
   split
   · exact⟨Nat.zero_le _,Nat.le_refl _,tl⟩
   · exact⟨Nat.zero_le _,Nat.le_refl _,tl⟩
 · have hj:j<t.reads.length:=by omega
   refine⟨?_,Nat.le_refl _,tl⟩;refine Nat.le_trans ?_ (judgeC_drop2 υ t.reads h2);have e:t.reads.getD j (0,0,false)=t.reads[j]:=by rw[List.getD_eq_getElem?_getD,List.getElem?_eq_getElem hj];rfl
   rw[e,List.drop_eq_getElem_cons hj];show υ.cost t.reads[j].1+υ.judgeC (t.reads.drop (j+1))≤_;unfold St.judgeC;rw[List.map_cons,List.sum_cons];exact Nat.le_refl _
theorem scan_less (υ:St) (k:Nat):∀ (key:Nat) (τ:St) (c:Cal),Mid N L n s d σ τ t c→c.op.hi+1 - key=k→TL t (fun k=>if key≤k then 1 else 0)→Less N L n s d σ υ (20+υ.scanC k key+υ.judgeC t.reads) (6*N+1613) (scanN s k τ key):=by
 induction k with
 |zero=>
  intro key τ c m hk tl;refine⟨t,c,m,?_,Nat.le_refl _,tl.mono (fun _=>Nat.zero_le _)⟩;show 12+_≤_;omega
 |succ k ih=>
  intro key τ c m hk tl;unfold scanN;rw[m.ec,m.et]
  split
  · exact⟨t,c,m,by show 12+_≤_;omega,Nat.le_refl _,tl.mono (fun _=>Nat.zero_le _)⟩
  · rename_i hlt
    have tl2:TL t (fun k=>if key+1≤k then 1 else 0):=tl.mono (fun k=>by split<;>split<;>omega)
    split
    · rename_i x hx
      cases hth:x.there with
      |true=>
       simp only[if_true];exact (ih (key+1) _ _ (m.tell key (τ.valueOf x.own)) (by show c.op.hi+1 - _=_;omega) tl2).le (by have:υ.scanC (k+1) key=2*υ.cost key+υ.scanC k (key+1):=rfl;omega) (Nat.le_refl _)
      |false=>
       simp only[Bool.false_eq_true,if_false];exact (ih (key+1) _ c m (by omega) tl2).le (by have:υ.scanC (k+1) key=2*υ.cost key+υ.scanC k (key+1):=rfl;omega) (Nat.le_refl _)
    · refine⟨t,c,m,?_,Nat.le_refl _,tl⟩
      show υ.cost key+(20+υ.cost key+υ.scanC (c.op.hi - key) (key+1)+υ.judgeC t.reads)≤20+υ.scanC (k+1) key+υ.judgeC t.reads;rw[show c.op.hi - key=k by omega];show _≤20+(2*υ.cost key+υ.scanC k (key+1))+_;omega
theorem thn_less (υ:St) (m:Mid N L n s d σ τ t c) {h:Hunt} (hh:HuntOk t c h) (tl:TL t (fun key=>pendH h key)) (link:Nat):Less N L (n+1) s d σ υ (υ.afterH t c h) (budH N h) (τ.thn s h link):=by
 obtain⟨key,at_,thn⟩:=h;obtain⟨hk,h2⟩:=hh;unfold St.thn
 cases thn with
 |get=>
  simp only;have m2:=m.read key link (link !=0) hk;have tl2:TL {t with reads:=t.reads++[(key,link,(link !=0))]} (fun _=>0):=tl.read (fun k=>by show 0+_≤if k=key then 1 else 0;split<;>split<;>omega);have hb:12+υ.judgeC (t.reads++[(key,link,(link !=0))])≤υ.afterH t c ⟨key,at_,.get⟩:=by
   rw[judgeC_app];show _≤20+υ.cost key+υ.judgeC t.reads;show 12+(_+υ.cost key)≤_;omega
  split
  · exact⟨_,c,m2,hb,Nat.le_refl _,tl2⟩
  · exact⟨_,c,m2,hb,Nat.le_refl _,tl2⟩
 |scan k=>
  obtain⟨rfl,hhi,hp⟩:=h2;simp only at hk hp hhi ⊢;have m2:=m.read k link false hk;have tl2:TL {t with reads:=t.reads++[(k,link,false)]} (fun q=>if k+1≤q then 1 else 0):=tl.read (fun q=>by show _≤if k≤q then 1 else 0;split<;>split<;>split<;>omega);have hb:20+υ.scanC (c.op.hi+1 - (k+1)) (k+1)+υ.judgeC (t.reads++[(k,link,false)])≤υ.afterH t c ⟨k,at_,.scan k⟩:=by
   rw[judgeC_app,show c.op.hi+1 - (k+1)=c.op.hi - k by omega];show _≤20+υ.cost k+υ.scanC (c.op.hi - k) (k+1)+υ.judgeC t.reads;show 20+υ.scanC (c.op.hi - k) (k+1)+(_+υ.cost k)≤_;omega
  unfold St.scan
  by_cases h0:link=0
  · rw[if_pos h0,m2.ec]
    exact (scan_less υ _ (k+1) _ c m2 rfl tl2).le hb (Nat.le_refl _)
  · rw[if_neg h0]
    have m3:=m2.tell k ((τ.read s k link false).valueOf link);rw[m3.ec];exact (scan_less υ _ (k+1) _ _ m3 rfl tl2).le hb (Nat.le_refl _)
 |change=>
  obtain⟨hkk,hx⟩:=h2;simp only at hk hkk ⊢;rw[m.ec];have tl0:TL t (fun _=>0):=tl.mono (fun _=>Nat.zero_le _);have tl2:TL {t with reads:=t.reads++[(c.op.key,link,false)]} (fun _=>0):=tl.read (fun k=>by show 0+_≤if k=key then 1 else 0;split<;>split<;>omega);have hb:12+υ.judgeC (t.reads++[(c.op.key,link,false)])≤υ.afterH t c ⟨key,at_,.change⟩:=by
   rw[judgeC_app];show 12+(_+υ.cost c.op.key)≤400+υ.cost key+υ.judgeC t.reads;rw[hkk];omega
  have hB:6*N+1613≤budH N ⟨key,at_,.change⟩:=by show _≤9*N+2000;omega
  split
  · exact⟨_,c,m.read _ link false (by omega),hb,hB,tl2⟩
  split
  · exact⟨_,c,m.read _ link false (by omega),hb,hB,tl2⟩
  split
  · refine⟨t,c,m.mono (Nat.le_succ _),?_,?_,tl0⟩
    · show 3*υ.Dh c.op.key+271+υ.judgeC t.reads≤400+υ.cost key+υ.judgeC t.reads
      rw[hkk];unfold St.cost;omega
    · show 9*N+1980≤9*N+2000;omega
  · refine⟨t,c,m.mono (Nat.le_succ _),?_,Nat.le_refl _,tl0⟩
    show 290+υ.judgeC t.reads≤400+υ.cost key+υ.judgeC t.reads;omega
 |judge i l=>
  simp only at h2 ⊢;have tl0:TL t (fun _=>0):=tl
  split
  · exact⟨t,c,m.mono (Nat.le_succ _),Nat.zero_le _,Nat.le_refl _,tl0⟩
  · obtain⟨g1,g2,g3⟩:=judgeK_less (c:=c) υ m.t1 (i:=i+1) (show i+1≤t.reads.length from h2) tl0
    refine⟨t,c,m.mono (Nat.le_succ _),?_,?_,?_⟩
    · show υ.remK N t c (judgeK (τ.t s) (i+1))≤_
      rw[m.et];exact g1
    · show υ.budK N c (judgeK (τ.t s) (i+1))≤_
      rw[m.et];exact g2
    · show TL t (fun key=>pend key (judgeK (τ.t s) (i+1)))
      rw[m.et];exact g3
theorem visit_less (υ:St) (m:Mid N L n s d σ τ t c) {h:Hunt} (hh:HuntOk t c h) (tl:TL t (fun key=>pendH h key)) (link:Nat):Less N L (n+1) s d σ υ ((if link=0 then 0 else 6*υ.Dn link+7)+υ.afterH t c h) (budH N h) (τ.visit s h link):=by
 unfold St.visit
 split
 · exact (thn_less υ m hh tl 0).le (by omega) (Nat.le_refl _)
 · exact⟨t,c,m.mono (Nat.le_succ _),by show 6*υ.Dn link+7+_≤_;omega,Nat.le_refl _,tl⟩
theorem seen_less (υ:St) (m:Mid N L n s d σ τ t c) {h:Hunt} (hh:HuntOk t c h) (tl:TL t (fun key=>pendH h key)) (link mb:Nat):Less N L (n+1) s d σ υ (6*υ.Dn link+3+υ.afterH t c h+υ.sg N mb) (budH N h) (τ.seen s h link mb):=by
 unfold St.seen
 split
 · exact (thn_less υ m hh tl link).le (by omega) (Nat.le_refl _)
 · rename_i h0
   exact⟨t,c,m.mono (Nat.le_succ _),Nat.le_refl _,Nat.le_refl _,tl.mono (fun k=>by show pendH h k+_≤_;rw[if_neg h0];exact Nat.le_refl _)⟩
theorem slot_less (υ:St) (m:Mid N L n s d σ τ t c) (tl:TL t (fun _=>0)) (x:Bool) (link head:Nat):Less N L n s d σ υ (266+υ.judgeC t.reads+if x then 0 else υ.st (9+c.op.key) head (3*N+20)) (9*N+1980+if x then 0 else υ.st (9+c.op.key) head 8) (τ.slot s x link head):=by
 unfold St.slot
 by_cases h0:link=0
 · rw[if_pos h0]
   have m2:=m.take
   cases e:τ.take with
   |mk τ2 o=>
    rw[e] at m2
    cases o with
    |none=>exact⟨t,c,m2,Nat.zero_le _,by show 6*N+1610≤_;omega,tl⟩
    |some l=>exact⟨t,c,m2.vals _ _,Nat.le_refl _,Nat.le_refl _,tl⟩
 · rw[if_neg h0]
   exact⟨t,c,m.vals _ _,Nat.le_refl _,Nat.le_refl _,tl⟩
theorem freeK_less (υ:St) (m:Mid N L n s d σ τ t c) (tl:TL t (fun _=>0)) (link head at_:Nat):Less N L n s d σ υ ((if at_=0 then 266 else 3*υ.Dn at_+270)+υ.judgeC t.reads+υ.st (9+c.op.key) head (3*N+20)) (9*N+1980+υ.st (9+c.op.key) head 8) (τ.freeK s link head at_):=by
 unfold St.freeK
 split
 · exact (slot_less υ m tl false link head).le (by simp) (by simp)
 · exact⟨t,c,m,by show 3*υ.Dn at_+270+_+_≤_;omega,Nat.le_refl _,tl⟩
theorem lost_less (υ:St) (m:Mid N L n s d σ τ t c) (tl:TL t (fun _=>0)) (link:Nat):Less N L (n+1) s d σ υ 0 (6*N+1610) (τ.lost link):=by
 unfold St.lost
 split
 · exact⟨t,c,m.give link,Nat.le_refl _,Nat.le_refl _,tl⟩
 · exact⟨t,c,m.mono (Nat.le_succ _),Nat.le_refl _,Nat.le_refl _,tl⟩
theorem TL.take (h:TL t p) (hT:TX N L n t) {key:Nat} (hx:t.cell key=none) (hk:key<64) (x:Cel):TL {t with cells:=(key,x)::t.cells,keys:=t.keys++[key]} p:=by
 refine⟨h.mul,?_,fun k hk'=>?_⟩
 · show (t.keys++[key]).Nodup
   rw[List.nodup_append];refine⟨h.kd,by simp,fun a ha b hb e=>?_⟩;simp at hb;subst hb;subst e;obtain⟨y,hy⟩:=hT.ky a ha;rw[hx] at hy
   cases hy
 · have hk'':k∈t.keys++[key]:=hk'
   rw[List.mem_append] at hk''
   rcases hk'' with hk''|hk''
   · exact h.kl k hk''
   · simp at hk'';subst hk'';exact hk
theorem TL.cells (h:TL t p) (l:List (Nat×Cel)):TL {t with cells:=l} p:=⟨h.mul,h.kd,h.kl⟩
theorem beginK_less (υ:St) (m:Mid N L n s d σ τ t c) {h:Hunt} (tl:TL t (fun key=>pendH h key)) (link w:Nat):υ.remK N t c (τ.beginK s h link w)≤6*υ.Dn link+6+υ.afterH t c h∧υ.budK N c (τ.beginK s h link w)≤budH N h∧TL t (fun key=>pend key (τ.beginK s h link w)):=by
 unfold St.beginK
 split
 · refine⟨?_,Nat.le_refl _,tl⟩
   show 6*υ.Dn link+5+υ.afterH t c h+υ.sg N 0≤_;unfold St.sg;rw[if_neg (fun x=>x.1 rfl)];omega
 split
 · exact⟨by show 6*υ.Dn link+3+_≤_;omega,Nat.le_refl _,tl⟩
 · exact⟨Nat.le_refl _,Nat.le_refl _,tl⟩
end
def Lrun (N L n s:Nat) (σ υ:St) (b B:Nat) (r:St×Option K):Prop:=∃ k d,r.2=some k∧d≤1∧Less N L (n+2) s d σ υ b B (r.1,k)
def wt (N:Nat) (σ:St) (s:Nat) (k:K):Nat:=3*wa σ s k+8*wb σ s k+(6*N+10)*wp σ s k+(3*N+176)*wh σ s k
section
variable {N L n s q cq d b b' B B':Nat} {σ τ υ:St} {t:Txn} {c:Cal} {C:Nat→List Nat} {O O':Nat→Nat} {p p':Nat→Nat}
theorem Less.mono {n':Nat} {r:St×K} (h:Less N L n s d σ υ b B r) (hn:n≤n'):Less N L n' s d σ υ b B r:=by
 obtain⟨t,c,m,h1,h2,h3⟩:=h;exact⟨t,c,m.mono hn,h1,h2,h3⟩
theorem Less.lrun {n':Nat} {r:St×K} (h:Less N L n' s 1 σ υ b B r) (hn:n'≤n+2):Lrun N L n s σ υ b B (r.1,some r.2):=⟨r.2,1,rfl,Nat.le_refl _,h.mono hn⟩
theorem Lrun.ws {r:St×Option K} (h:Lrun N L n s σ σ b B r) (w:Ws σ υ):Lrun N L n s σ υ b B r:=by
 obtain⟨k,d,h0,h1,t,c,m,h2,h3,h4⟩:=h;exact⟨k,d,h0,h1,t,c,m,by rw[w.remK];exact h2,by rw[w.budK];exact h3,h4⟩
theorem after_cong {t t2:Txn} {h:Hunt} (e:t2.reads=t.reads):υ.afterH t2 c h=υ.afterH t c h:=by
 unfold St.afterH;rw[e]
theorem Mid.bind' (m:Mid N L n s d σ τ t c) (tq:Nat) (hto:tq≤2000):∃ t2,Mid N L (n+1) s d σ (τ.bind s tq) t2 c∧t2.cells=t.cells∧t2.reads=t.reads∧t2.ops=t.ops∧t2.keys=t.keys:=by
 obtain⟨t2,m2,-⟩:=m.bind tq hto;refine⟨t2,m2,?_⟩;have e:(τ.bind s tq).t s=t2:=m2.et;have e2:τ.t s=t:=m.et;unfold St.bind at e;rw[e2] at e
 split at e
 · rw[←e,e2];exact⟨rfl,rfl,rfl,rfl⟩
 · have:(τ.setT s {t with bonds:=t.bonds++[tq]}).t s={t with bonds:=t.bonds++[tq]}:=by
    unfold St.t St.setT;simp only;rw[getD_setO _ _ _ _ (by rw[m.sh.t8];exact m.s8),if_pos rfl];rfl
   rw[←e,show ((τ.setT s {t with bonds:=t.bonds++[tq]}).event _).t s=(τ.setT s {t with bonds:=t.bonds++[tq]}).t s from rfl,this];exact⟨rfl,rfl,rfl,rfl⟩
theorem TL.cong {t2:Txn} (h:TL t p) (e1:t2.reads=t.reads) (e2:t2.ops=t.ops) (e3:t2.keys=t.keys):TL t2 p:=⟨fun k=>by unfold cnt;rw[e1,e2];exact h.mul k,by rw[e3];exact h.kd,by rw[e3];exact h.kl⟩
theorem st_zero {i v x:Nat} (h:υ.word i=v):υ.st i v x=0:=if_pos h
theorem st_one {i v x:Nat} (h:υ.word i≠v):υ.st i v x=x:=if_neg h
set_option maxHeartbeats 3200000 in
theorem run_less (hcs:CS N σ C O) (m:Mid N L n s 0 σ σ t c) {k:K} (hk:KOk N L t c k) (hpv:Pv N σ O s cq k) (tl:TL t (fun key=>pend key k)) (hl:late k=false) (hf:∀ r,k≠.fin r):
 ∃ b B,b<σ.remK N t c k∧B+wt N σ s k≤σ.budK N c k∧Lrun N L n s σ (σ.run s k).1 b B (σ.run s k):=by
 have et:=m.et;have ec:=m.ec;have hs:=m.sh;have hT:=m.t1;have mt:=m.tick;have hN:=hs.n1;obtain⟨e1,e2⟩:=run_words σ s k;have hE:=run_ef hcs m hk hpv;have tl0:TL t (fun _=>0):=tl.mono (fun _=>Nat.zero_le _);have hC:cnt t c.op.key≤12:=by have:=tl0.mul c.op.key;have:=hT.op;omega
 have hws:wr σ s k=none→Ws σ (σ.run s k).1:=fun e=>⟨by rw[e1,e];rfl,e2⟩
 have hO:∀ l:Nat,Path N σ O cq l→l≠0→σ.D l=σ.Dn l+1:=fun l hp=>(hp.D hN).2
 cases k with
 |fin r=>exact absurd rfl (hf r)
 |start h=>
  refine⟨_,budH N h,?_,Nat.le_refl _,Lrun.ws (Less.lrun (visit_less σ mt hk tl (σ.word (9+h.key))) (by omega)) (hws rfl)⟩;show _<σ.cost h.key+_;have h1:=hO _ (hcs.path hk.1 cq);unfold St.cost St.Dh
  split
  · omega
  · rename_i h0;have:=h1 h0;omega
 |visit h l=>
  obtain⟨a1,a2,a3⟩:=beginK_less (τ:=σ) σ m (h:=h) tl l (σ.word (wslot l 0));exact⟨_,budH N h,by show _<6*σ.Dn l+7+_;exact Nat.lt_of_le_of_lt a1 (by omega),Nat.le_refl _,Lrun.ws (Less.lrun (r:=(_,_)) ⟨t,c,mt,Nat.le_refl _,a2,a3⟩ (by omega)) (hws rfl)⟩
 |maker h l id=>
  refine⟨6*σ.Dn l+5+σ.afterH t c h,budH N h,by show _<6*σ.Dn l+6+_;omega,Nat.le_refl _,Lrun.ws ?_ (hws rfl)⟩;simp only[St.run]
  split
  · exact Less.lrun (r:=(_,_)) ⟨t,c,mt,by show 6*σ.Dn l+3+_≤_;omega,Nat.le_refl _,tl⟩ (by omega)
  split
  · rename_i h2
    refine Less.lrun (r:=(_,_)) ⟨t,c,mt,?_,Nat.le_refl _,tl⟩ (by omega);show 6*σ.Dn l+5+_+σ.sg N id≤_;unfold St.sg;rw[if_neg (fun x=>by have:=x.2;omega)];exact Nat.le_refl _
  · refine Less.lrun (r:=(_,_)) ⟨t,c,mt,?_,Nat.le_refl _,tl⟩ (by omega)
    show 6*σ.Dn l+5+_+σ.sg N 0≤_;unfold St.sg;rw[if_neg (fun x=>x.1 rfl)];exact Nat.le_refl _
 |older h l=>
  refine⟨_,budH N h,?_,Nat.le_refl _,Lrun.ws (Less.lrun (visit_less σ mt hk.1 tl (σ.word (wslot l 2))) (by omega)) (hws rfl)⟩;show _<6*σ.Dn l+3+_;have h1:=hO _ (hpv.tail hk.2.ne);have h2:σ.Dn l=σ.D (σ.word (wslot l 2)):=rfl
  split
  · omega
  · rename_i h0;have:=h1 h0;omega
 |ended h l mb=>
  refine⟨6*σ.Dn l+4+σ.afterH t c h+σ.sg N mb,budH N h,by show _<6*σ.Dn l+5+_+_;omega,Nat.le_refl _,Lrun.ws ?_ (hws rfl)⟩;simp only[St.run]
  split
  · exact Less.lrun (r:=(_,_)) ⟨t,c,mt,by show 6*σ.Dn l+3+_≤_;omega,Nat.le_refl _,tl⟩ (by omega)
  split
  · exact Less.lrun ((seen_less σ mt hk.1 tl l mb).le (by omega) (Nat.le_refl _)) (by omega)
  · exact Less.lrun (r:=(_,_)) ⟨t,c,mt,Nat.le_refl _,Nat.le_refl _,tl⟩ (by omega)
 |ender h l mb id=>
  refine⟨6*σ.Dn l+3+σ.afterH t c h+σ.sg N mb,budH N h,by show _<6*σ.Dn l+4+_+_;omega,Nat.le_refl _,Lrun.ws ?_ (hws rfl)⟩;simp only[St.run]
  split
  · exact Less.lrun (seen_less σ mt hk.1 tl l mb) (by omega)
  split
  · obtain⟨t2,m2,f1,f2,f3,f4⟩:=mt.bind' id hk.2.2.2
    refine Less.lrun (r:=(_,_)) ⟨t2,c,m2,?_,Nat.le_refl _,tl.cong f2 f3 f4⟩ (by omega);show 6*σ.Dn l+3+σ.afterH t2 c h≤_;rw[after_cong f2];omega
  · exact Less.lrun (r:=(_,_)) ⟨t,c,mt,by show 6*σ.Dn l+3+_≤_;omega,Nat.le_refl _,tl⟩ (by omega)
 |seen h l mb=>
  have hmb:mb≠0:=by
   rintro rfl;have h1:=tl.mul 0;have h2:=hT.op;simp only[pend,if_true] at h1;omega
  have tlh:TL t (fun key=>pendH h key):=tl.mono (fun k=>by show _≤pendH h k+_;omega);refine⟨6*σ.Dn l+2+σ.afterH t c h+σ.sg N mb,budH N h,by show _<6*σ.Dn l+3+_+_;omega,Nat.le_refl _,Lrun.ws ?_ (hws rfl)⟩;simp only[St.run]
  split
  · rename_i h4
    refine Less.lrun (r:=(_,_)) ⟨t,c,mt,?_,Nat.le_refl _,tlh⟩ (by omega);show σ.cost h.key+σ.afterH t c h≤_;have h1:=(hcs.Dh hN hk.1.1).2;unfold St.sg St.cost;rw[if_pos ⟨hmb,h4⟩];omega
  · split
    · obtain⟨t2,m2,f1,f2,f3,f4⟩:=mt.bind' mb hk.2.2
      refine Less.lrun ((thn_less σ m2 (hunt_cong hk.1 f1 f2) (tlh.cong f2 f3 f4) l).le ?_ (Nat.le_refl _)) (by omega);rw[after_cong f2];omega
    · exact Less.lrun ((thn_less σ mt hk.1 tlh l).le (by omega) (Nat.le_refl _)) (by omega)
 |again en=>
  obtain⟨h1,h2,x,hx,hxo⟩:=hk;have hJ:=hE.judge72 (Nat.zero_le _) hT.rd hC;refine⟨12+σ.judgeC t.reads,6*N+1613,by show _<14+_;omega,by show _+(3*0+8*1+_*0+_*0)≤6*N+1630;omega,?_⟩;have ex:σ.x s c.op.key=x:=by unfold St.x;rw[et,hx];rfl
  have hrem:∀ t2:Txn,t2.reads=t.reads→(σ.run s (.again en)).1.remK N t2 c (.fin {})≤12+σ.judgeC t.reads:=fun t2 e=>by
   show 12+_≤_;rw[e];have:wh σ s (.again en)=0:=rfl;omega
  generalize (σ.run s (.again en)).1=υ at hrem;simp only[St.run,ec,ex];have m1:=m.put (slot_ok (w:=1) hxo (by omega) h1 h2);have m2:=m1.setT (tx_setX m1.t1 c.op.key {x with there:=(c.op.kind !=4)} (m.t1.cell hx).1 (m.t1.cell hx).2.1 (fun _=>hxo));have e3:((σ.put (wslot x.own 1) en).c s).op.kind=c.op.kind:=by rw[m1.ec]
  have e4:((σ.put (wslot x.own 1) en).setX s c.op.key {x with there:=(c.op.kind !=4)})=((σ.put (wslot x.own 1) en).setT s {t with cells:=upd t.cells c.op.key {x with there:=(c.op.kind !=4)}}):=by unfold St.setX;rw[m1.et]
  rw[e3,e4]
  split
  · exact Less.lrun (r:=(_,_)) ⟨_,c,m2.vals _ _,hrem _ rfl,Nat.le_refl _,tl0.cells _⟩ (by omega)
  · exact Less.lrun (r:=(_,_)) ⟨_,c,m2,hrem _ rfl,Nat.le_refl _,tl0.cells _⟩ (by omega)
 |own l=>
  refine⟨288+σ.judgeC t.reads,9*N+2000,by show _<290+_;omega,Nat.le_refl _,Lrun.ws ?_ (hws rfl)⟩;simp only[St.run]
  split
  · refine Less.lrun (r:=(_,_)) ⟨t,c,mt,?_,Nat.le_refl _,tl0⟩ (by omega)
    show 286+_+σ.st _ _ 8≤_;rw[st_zero rfl];omega
  split
  · refine Less.lrun (r:=(_,_)) ⟨t,c,mt,?_,Nat.le_refl _,tl0⟩ (by omega)
    show 288+_+σ.st _ _ 8≤_;rw[st_zero rfl];exact Nat.le_refl _
  · exact Less.lrun (r:=(_,_)) ⟨t,c,mt,Nat.zero_le _,by show 6*N+1610≤_;omega,tl0⟩ (by omega)
 |ownTxn l w id=>
  refine⟨286+σ.judgeC t.reads+σ.st (wslot l 1) w 8,9*N+2000,by show _<288+_+_;omega,Nat.le_refl _,Lrun.ws ?_ (hws rfl)⟩;simp only[St.run]
  split
  · exact Less.lrun (r:=(_,_)) ⟨t,c,mt,Nat.zero_le _,by show 6*N+1610≤_;omega,tl0⟩ (by omega)
  · exact Less.lrun (r:=(_,_)) ⟨t,c,mt,Nat.le_refl _,Nat.le_refl _,tl0⟩ (by omega)
 |claim l w=>
  obtain⟨hl',hx,hkk⟩:=hk;have m1:=m.cas (o:=w) (slot_ok (L:=L) (w:=1) hl' (by omega) (mine_lt m.t1) (Wd_mine m.t1));have hJ:=hE.judge72 (Nat.zero_le _) hT.rd hC;have h0:wh σ s (.claim l w)=0:=rfl
  by_cases hw:σ.word (wslot l 1)=w
  · have hw1:wb σ s (.claim l w)=1:=by simp only[wb];rw[if_pos hw]
    refine⟨266+σ.judgeC t.reads,9*N+1980,by show _<286+_+_;omega,?_,?_⟩
    · show _+(3*0+8*wb σ s (.claim l w)+_*0+_*0)≤9*N+2000
      rw[hw1];omega
    · have hJ2:(σ.run s (.claim l w)).1.judgeC t.reads≤σ.judgeC t.reads:=by omega
      generalize (σ.run s (.claim l w)).1=υ at hJ2;simp only[St.run,et];rw[if_neg (fun x=>x hw)];have m2:=(m1.mono (Nat.le_succ n)).setT (tx_take m1.t1 c.op.key ⟨0,l,false⟩ (.inl rfl) (.inr hl') (by simp));have e1:(σ.cas (wslot l 1) w (mine t)).takeKey s ((σ.cas (wslot l 1) w (mine t)).c s).op.key ⟨0,l,false⟩=(σ.cas (wslot l 1) w (mine t)).setT s {t with cells:=(c.op.key,⟨0,l,false⟩)::t.cells,keys:=t.keys++[c.op.key]}:=by
       unfold St.takeKey;rw[m1.et,m1.ec]
      rw[e1,m2.ec];have tl2:=tl0.take hT hx hkk ⟨0,l,false⟩
      split
      · exact Less.lrun (r:=(_,_)) ⟨_,c,m2,by show 12+υ.judgeC t.reads≤_;omega,by show 6*N+1613≤_;omega,tl2⟩ (by omega)
      · exact Less.lrun ((slot_less υ m2 tl2 true 0 0).le (by show 266+υ.judgeC t.reads+0≤_;omega) (by simp)) (by omega)
  · refine⟨290+σ.judgeC t.reads,9*N+2000,?_,?_,Lrun.ws ?_ (hws ?_)⟩
    · show _<286+_+σ.st _ _ 8
      rw[st_one hw];omega
    · show _+(3*0+8*wb σ s (.claim l w)+_*0+_*0)≤9*N+2000
      have hw1:wb σ s (.claim l w)=0:=by simp only[wb];rw[if_neg hw]
      rw[hw1];omega
    · simp only[St.run,et]
      rw[if_pos hw];exact Less.lrun (r:=(_,_)) ⟨t,c,m1,Nat.le_refl _,Nat.le_refl _,tl0⟩ (by omega)
    · simp only[wr];rw[if_neg hw]
 |fresh l=>
  obtain⟨hl',hx,hkk⟩:=hk;refine⟨_,9*N+1980,?_,Nat.le_refl _,Lrun.ws (υ:=_) (b:=(if σ.word (9+c.op.key)=0 then 266 else 3*σ.Dn (σ.word (9+c.op.key))+270)+σ.judgeC t.reads+σ.st (9+c.op.key) (σ.word (9+c.op.key)) (3*N+20)) ?_ (hws rfl)⟩
  · show _<3*σ.Dh c.op.key+271+_
    rw[st_zero rfl];have h1:=hO _ (hcs.path hkk cq);unfold St.Dh
    split
    · omega
    · rename_i h0;have:=h1 h0;omega
  · simp only[St.run,ec]
    exact Less.lrun ((freeK_less σ mt tl0 l _ _).le (Nat.le_refl _) (by rw[st_zero rfl];exact Nat.le_refl _)) (by omega)
 |next l head at_=>
  obtain⟨hl',hh,ha,hx,hkk⟩:=hk;refine⟨_,9*N+1980+σ.st (9+c.op.key) head 8,?_,Nat.le_refl _,Lrun.ws (Less.lrun (freeK_less σ mt tl0 l head (σ.word (wslot at_ 2))) (by omega)) (hws rfl)⟩;show _<3*σ.Dn at_+268+_+_;have h1:=hO _ (hpv.2.tail ha.ne);have h2:σ.Dn at_=σ.D (σ.word (wslot at_ 2)):=rfl
  split
  · omega
  · rename_i h0;have:=h1 h0;omega
 |free l head at_=>
  refine⟨3*σ.Dn at_+269+σ.judgeC t.reads+σ.st (9+c.op.key) head (3*N+20),9*N+1980+σ.st (9+c.op.key) head 8,by show _<3*σ.Dn at_+270+_+_;omega,Nat.le_refl _,Lrun.ws ?_ (hws rfl)⟩;simp only[St.run]
  split
  · exact Less.lrun (r:=(_,_)) ⟨t,c,mt,by show 3*σ.Dn at_+268+_+_≤_;omega,Nat.le_refl _,tl0⟩ (by omega)
  split
  · exact Less.lrun ((lost_less σ mt tl0 l).le (Nat.zero_le _) (by omega)) (by omega)
  · exact Less.lrun (r:=(_,_)) ⟨t,c,mt,Nat.le_refl _,Nat.le_refl _,tl0⟩ (by omega)
 |freeTxn l head at_ id=>
  refine⟨3*σ.Dn at_+268+σ.judgeC t.reads+σ.st (9+c.op.key) head (3*N+20),9*N+1980+σ.st (9+c.op.key) head 8,by show _<3*σ.Dn at_+269+_+_;omega,Nat.le_refl _,Lrun.ws ?_ (hws rfl)⟩;simp only[St.run]
  split
  · exact Less.lrun (r:=(_,_)) ⟨t,c,mt,Nat.le_refl _,Nat.le_refl _,tl0⟩ (by omega)
  · exact Less.lrun ((lost_less σ mt tl0 l).le (Nat.zero_le _) (by omega)) (by omega)
 |slotB x l head=>
  obtain⟨hl',hkk,hx⟩:=hk;have hJ:=hE.judge72 (Nat.zero_le _) hT.rd hC;have hH:=(hE.hd c.op.key hkk).resolve_right (by show ¬ (0=1);omega);have h0:wh σ s (.slotB x l head)=0:=rfl;refine⟨264+σ.judgeC t.reads+if x then 0 else σ.st (9+c.op.key) head (3*N+20),9*N+1980+if x then 0 else σ.st (9+c.op.key) head 8,by show _<266+_+_;omega,Nat.le_refl _,?_⟩;have hbud:(σ.run s (.slotB x l head)).1.budK N c (.slotE x l head)≤9*N+1980+if x then 0 else σ.st (9+c.op.key) head 8:=by
   show 9*N+1980+(if x then 0 else (σ.run s (.slotB x l head)).1.st _ _ _)≤_;unfold St.st;rw[hH];exact Nat.le_refl _
  have hrem:(σ.run s (.slotB x l head)).1.remK N t c (.slotE x l head)≤264+σ.judgeC t.reads+if x then 0 else σ.st (9+c.op.key) head (3*N+20):=by
   show 264+_+(if x then 0 else (σ.run s (.slotB x l head)).1.st _ _ _)≤_;unfold St.st;rw[hH];omega
  generalize (σ.run s (.slotB x l head)).1=υ at hrem hbud;simp only[St.run,et];exact Less.lrun (r:=(_,_)) ⟨t,c,m.put (slot_ok hl' (by omega) (mine_lt m.t1) (Wd_mine m.t1)),hrem,hbud,tl0⟩ (by omega)
 |slotE x l head=>
  obtain⟨hl',hkk,hx⟩:=hk;have hJ:=hE.judge72 (Nat.zero_le _) hT.rd hC;have hH:=(hE.hd c.op.key hkk).resolve_right (by show ¬ (0=1);omega);have h0:wh σ s (.slotE x l head)=0:=rfl;refine⟨262+σ.judgeC t.reads+if x then 0 else σ.st (9+c.op.key) head (3*N+20),9*N+1972+(if x then 0 else σ.st (9+c.op.key) head 8),by show _<264+_+_;omega,by show _+(3*0+8*1+_*0+_*0)≤9*N+1980+(if x then 0 else σ.st (9+c.op.key) head 8);omega,?_⟩;have hbud:(σ.run s (.slotE x l head)).1.budK N c (if x then .over l else .push l head)≤9*N+1972+(if x then 0 else σ.st (9+c.op.key) head 8):=by
   cases x with
   |true=>show 9*N+1970+0≤_;omega
   |false=>
    show 9*N+1972+(σ.run s (.slotE false l head)).1.st _ _ _≤_;unfold St.st;rw[hH];exact Nat.le_refl _
  have hrem:(σ.run s (.slotE x l head)).1.remK N t c (if x then .over l else .push l head)≤262+σ.judgeC t.reads+if x then 0 else σ.st (9+c.op.key) head (3*N+20):=by
   cases x with
   |true=>show 262+_≤_;omega
   |false=>
    show 260+_+(σ.run s (.slotE false l head)).1.st _ _ _≤_;unfold St.st;rw[hH];simp only[Bool.false_eq_true,if_false];omega
  generalize (σ.run s (.slotE x l head)).1=υ at hrem hbud;simp only[St.run];refine Less.lrun (r:=(_,_)) ⟨t,c,m.put (slot_ok hl' (by omega) (by decide) Wd_ever),hrem,hbud,?_⟩ (by omega)
  cases x<;>exact tl0
 |push l head=>
  obtain⟨hl',hh,hx,hkk⟩:=hk;have hJ:=hE.judge72 (Nat.zero_le _) hT.rd hC;have hH:=(hE.hd c.op.key hkk).resolve_right (by show ¬ (0=1);omega);have h0:wh σ s (.push l head)=0:=rfl;refine⟨256+σ.judgeC t.reads+σ.st (9+c.op.key) head (3*N+20),9*N+1972+σ.st (9+c.op.key) head 8,by show _<260+_+_;omega,Nat.le_refl _,Less.lrun (r:=(_,_)) ⟨t,c,m.put (next_ok hl' hh),?_,?_,tl0⟩ (by omega)⟩
  · show 256+_+(σ.run s (.push l head)).1.st _ _ _≤_
    unfold St.st;rw[hH];omega
  · show 9*N+1972+(σ.run s (.push l head)).1.st _ _ _≤_
    unfold St.st;rw[hH];exact Nat.le_refl _
 |pushC l head=>
  obtain⟨hl',hh,hx,hkk⟩:=hk;have m1:=m.cas (o:=head) (head_ok (L:=L) hkk (.inr hl'))
  by_cases hw:σ.word (9+c.op.key)=head
  · have hw1:wh σ s (.pushC l head)=1:=by simp only[wh];rw[ec,if_pos hw]
    have hJ:=hE.judge72 (by omega) hT.rd hC;refine⟨84+σ.judgeC t.reads,6*N+1613,by show _<256+_+_;omega,?_,?_⟩
    · show _+(3*0+8*0+_*0+(3*N+176)*wh σ s (.pushC l head))≤9*N+1972+_
      rw[hw1];omega
    · rw[hw1] at hJ
      have hJ2:(σ.run s (.pushC l head)).1.judgeC t.reads≤σ.judgeC t.reads+72:=by omega
      generalize (σ.run s (.pushC l head)).1=υ at hJ2;simp only[St.run,ec];rw[if_neg (fun x=>x hw)];have m2:=(m1.mono (Nat.le_succ n)).setT (tx_take m1.t1 c.op.key ⟨l,0,true⟩ (.inr hl') (.inl rfl) (fun _=>hl'));have e1:(σ.cas (9+c.op.key) head l).takeKey s c.op.key ⟨l,0,true⟩=(σ.cas (9+c.op.key) head l).setT s {t with cells:=(c.op.key,⟨l,0,true⟩)::t.cells,keys:=t.keys++[c.op.key]}:=by
       unfold St.takeKey;rw[m1.et]
      rw[e1];exact Less.lrun (r:=(_,_)) ⟨_,c,m2,by show 12+υ.judgeC t.reads≤_;omega,Nat.le_refl _,tl0.take hT hx hkk ⟨l,0,true⟩⟩ (by omega)
  · refine⟨3*N+271+σ.judgeC t.reads,9*N+1980,?_,?_,Lrun.ws ?_ (hws ?_)⟩
    · show _<256+_+σ.st _ _ _
      rw[st_one hw];omega
    · show _+(3*0+8*0+_*0+(3*N+176)*wh σ s (.pushC l head))≤9*N+1972+σ.st _ _ 8
      have hw1:wh σ s (.pushC l head)=0:=by simp only[wh];rw[ec,if_neg hw]
      rw[hw1,st_one hw];omega
    · simp only[St.run,ec]
      rw[if_pos hw];refine Less.lrun (r:=(_,_)) ⟨t,c,m1,?_,?_,tl0⟩ (by omega)
      · have:=(hcs.Dh hN hkk).2
        show 3*σ.Dh c.op.key+271+_≤_;omega
      · exact Nat.le_refl _
    · simp only[wr];rw[ec,if_neg hw]
 |over l=>
  refine⟨260+σ.judgeC t.reads,9*N+1970,by show _<262+_;omega,Nat.le_refl _,Lrun.ws ?_ (hws rfl)⟩;simp only[St.run,ec];refine Less.lrun (r:=(_,_)) ⟨t,c,mt,?_,Nat.le_refl _,tl0⟩ (by omega);show 260+_+σ.st _ _ 8≤_;rw[st_zero rfl];exact Nat.le_refl _
 |overN l head=>
  obtain⟨hl',hh,hx,hkk⟩:=hk;have hJ:=hE.judge72 (Nat.zero_le _) hT.rd hC;have hH:=(hE.hd c.op.key hkk).resolve_right (by show ¬ (0=1);omega);have h0:wh σ s (.overN l head)=0:=rfl;refine⟨256+σ.judgeC t.reads+σ.st (9+c.op.key) head 8,9*N+1970,by show _<260+_+_;omega,Nat.le_refl _,Less.lrun (r:=(_,_)) ⟨t,c,m.put (next_ok hl' hh),?_,Nat.le_refl _,tl0⟩ (by omega)⟩;show 256+_+(σ.run s (.overN l head)).1.st _ _ _≤_;unfold St.st;rw[hH];omega
 |overC l head=>
  obtain⟨hl',hh,hx,hkk⟩:=hk;have m1:=m.cas (o:=head) (head_ok (L:=L) hkk (.inr hl'))
  by_cases hw:σ.word (9+c.op.key)=head
  · have hw1:wh σ s (.overC l head)=1:=by simp only[wh];rw[ec,if_pos hw]
    have hJ:=hE.judge72 (by omega) hT.rd hC;refine⟨84+σ.judgeC t.reads,6*N+1613,by show _<256+_+_;omega,?_,?_⟩
    · show _+(3*0+8*0+_*0+(3*N+176)*wh σ s (.overC l head))≤9*N+1970
      rw[hw1];omega
    · rw[hw1] at hJ
      have hJ2:(σ.run s (.overC l head)).1.judgeC t.reads≤σ.judgeC t.reads+72:=by omega
      generalize (σ.run s (.overC l head)).1=υ at hJ2;obtain⟨x,hx⟩:=Option.isSome_iff_exists.1 hx;simp only[St.run,ec];rw[if_neg (fun x=>x hw)];have ex:(σ.cas (9+c.op.key) head l).x s c.op.key=x:=by unfold St.x;rw[m1.et,hx];rfl
      rw[ex];have m2:=m1.setT (tx_setX m1.t1 c.op.key {x with own:=l,there:=true} (.inr hl') (m.t1.cell hx).2.1 (fun _=>hl'));have e4:(σ.cas (9+c.op.key) head l).setX s c.op.key {x with own:=l,there:=true}=(σ.cas (9+c.op.key) head l).setT s {t with cells:=upd t.cells c.op.key {x with own:=l,there:=true}}:=by unfold St.setX;rw[m1.et]
      rw[e4];exact Less.lrun (r:=(_,_)) ⟨_,c,m2,by show 12+υ.judgeC t.reads≤_;omega,Nat.le_refl _,tl0.cells _⟩ (by omega)
  · refine⟨262+σ.judgeC t.reads,9*N+1970,?_,?_,Lrun.ws ?_ (hws ?_)⟩
    · show _<256+_+σ.st _ _ _
      rw[st_one hw];omega
    · show _+(3*0+8*0+_*0+(3*N+176)*wh σ s (.overC l head))≤9*N+1970
      have hw1:wh σ s (.overC l head)=0:=by simp only[wh];rw[ec,if_neg hw]
      rw[hw1];omega
    · simp only[St.run,ec]
      rw[if_pos hw];exact Less.lrun (r:=(_,_)) ⟨t,c,m1,Nat.le_refl _,Nat.le_refl _,tl0⟩ (by omega)
    · simp only[wr];rw[ec,if_neg hw]
 |draw=>
  refine⟨9+σ.judgeC t.reads,6*N+1613,by show _<10+_;omega,Nat.le_refl _,Lrun.ws ?_ (hws rfl)⟩;simp only[St.run]
  split
  · exact Less.lrun (r:=(_,_)) ⟨t,c,mt,Nat.zero_le _,by show 6*N+1610≤_;omega,tl0⟩ (by omega)
  split
  · refine Less.lrun (r:=(_,_)) ⟨t,c,mt,?_,Nat.le_refl _,tl0⟩ (by omega)
    show 8+_+σ.st _ _ 3≤_;rw[st_zero rfl];omega
  · refine Less.lrun (r:=(_,_)) ⟨t,c,mt,?_,Nat.le_refl _,tl0⟩ (by omega)
    show 9+_+σ.st _ _ 3≤_;rw[st_zero rfl];exact Nat.le_refl _
 |drawH w now=>
  obtain⟨h1,h2,h3,h4⟩:=hk;have hJ:=hE.judge72 (Nat.zero_le _) hT.rd hC;have hK:=hE.ck.resolve_right (by show ¬ (0=1);omega);have h0:wh σ s (.drawH w now)=0:=rfl;refine⟨8+σ.judgeC t.reads+σ.st 0 w 3,6*N+1613,by show _<9+_+_;omega,Nat.le_refl _,Less.lrun (r:=(_,_)) ⟨t,c,m.help h4,?_,Nat.le_refl _,tl0⟩ (by omega)⟩;show 8+_+(σ.run s (.drawH w now)).1.st _ _ _≤_;unfold St.st;rw[hK];omega
 |turn w now=>
  have hnow:now<L:=hk;have m1:=m.cas (o:=w) (clock_ok (L:=L) (x:=now+1) (id:=t.id) (N:=N) (by omega) hs.l1 hT.i2)
  by_cases hw:σ.word 0=w
  · have hJ:=hE.judge72 (Nat.zero_le _) hT.rd hC
    have h0:wh σ s (.turn w now)=0:=rfl;have hw1:wa σ s (.turn w now)=1:=by simp only[wa];rw[if_pos hw]
    refine⟨1+σ.judgeC t.reads,6*N+1610,by show _<8+_+_;omega,?_,?_⟩
    · show _+(3*wa σ s (.turn w now)+8*0+_*0+_*0)≤6*N+1613
      rw[hw1];omega
    · have hJ2:(σ.run s (.turn w now)).1.judgeC t.reads≤σ.judgeC t.reads:=by omega
      generalize (σ.run s (.turn w now)).1=υ at hJ2;simp only[St.run,et];rw[if_neg (fun x=>x hw),m1.et];have hT2:TX N L n {t with end_:=now+1}:=⟨hT.i1,hT.i2,hT.op,hT.bg,by show now+1≤L;omega,hT.ce,hT.ky,hT.kn,hT.rd,hT.rn,hT.bd,hT.bn⟩
      exact Less.lrun (r:=(_,_)) ⟨_,c,(m1.setT hT2).event _ (Nat.zero_le _),by show 1+υ.judgeC t.reads≤_;omega,Nat.le_refl _,⟨tl0.mul,tl0.kd,tl0.kl⟩⟩ (by omega)
  · refine⟨10+σ.judgeC t.reads,6*N+1613,?_,?_,Lrun.ws ?_ (hws ?_)⟩
    · show _<8+_+σ.st _ _ _
      rw[st_one hw];omega
    · show _+(3*wa σ s (.turn w now)+8*0+_*0+_*0)≤6*N+1613
      have hw1:wa σ s (.turn w now)=0:=by simp only[wa];rw[if_neg hw]
      rw[hw1];omega
    · simp only[St.run,et]
      rw[if_pos hw];exact Less.lrun (r:=(_,_)) ⟨t,c,m1,Nat.le_refl _,Nat.le_refl _,tl0⟩ (by omega)
    · simp only[wr];rw[if_neg hw]
 |helpJ=>
  have hJ:=hE.judge72 (Nat.zero_le _) hT.rd hC;have h0:wh σ s .helpJ=0:=rfl;refine⟨σ.judgeC t.reads,6*N+1610,by show _<1+_;omega,Nat.le_refl _,?_⟩;have hJ2:(σ.run s .helpJ).1.judgeC t.reads≤σ.judgeC t.reads:=by omega
  generalize (σ.run s .helpJ).1=υ at hJ2;simp only[St.run,et];have m1:=m.help (w:=clockW t.end_ t.id) (by have:=hT.en;have:=hT.i2;unfold timeOf clockW;omega);rw[m1.et];obtain⟨g1,g2,g3⟩:=judgeK_less (c:=c) υ hT (i:=0) (Nat.zero_le _) tl0;exact Less.lrun (r:=(_,_)) ⟨t,c,m1,Nat.le_trans g1 hJ2,g2,g3⟩ (by omega)
 |wait i=>cases hl
 |commit=>cases hl
 |abort e r=>cases hl
 |turns l r=>cases hl
end
structure Stp (N L n s:Nat) (σ σ1:St) (kd:Nat) (r:Res) (t:Txn) (c:Cal) (k:K) (σ2:St) (ok:Option K) (t2:Txn) (c2:Cal):Prop where
 tx:σ.txns.getD s none=some t
 ca:σ.calls.getD s none=some c
 ck:c.k=some k
 ov:c.over=false
 ro:c.r.over=0
 kok:KOk N L t {c with waits:=false} k
 m:Mid N L n s 0 (σ.setC s {c with waits:=false}) (σ.setC s {c with waits:=false}) t {c with waits:=false}
 run:(σ.setC s {c with waits:=false}).run s k=(σ2,ok)
 m2:∃ d,Mid N L (n+2) s d (σ.setC s {c with waits:=false}) σ2 t2 c2
 e1:∃ l cs ts tl,σ1={σ2 with looks:=l,calls:=cs,txns:=ts,tale:=tl}
 oc:∀ q,q≠s→σ1.calls.getD q none=σ.calls.getD q none
 ox:∀ q,q≠s→σ1.txns.getD q none=σ.txns.getD q none
 go:∀ k',ok=some k'→kd=(if c2.waits then 2 else 1)∧r={}∧σ1.calls.getD s none=some {c2 with k:=some k'}∧σ1.txns.getD s none=some t2∧σ1.tale=σ2.tale
 no:ok=none→kd=3∧r=c2.r∧σ1.calls.getD s none=none∧((c2.r.over=0∧σ1.txns.getD s none=some t2∧σ1.tale=σ2.tale++[{kind:=2,t:=t2.id,op:=c2.op,res:=c2.r}])∨(c2.r.over≠0∧σ1.txns.getD s none=none∧σ1.tale=σ2.tale))
section
variable {N L n s q cq d:Nat} {σ τ υ σ1:St} {t:Txn} {c:Cal} {kd:Nat} {r:Res}
theorem WF.parts (h:WF N L n σ) (hs:s<8) (hst:oneStep σ s=some (σ1,kd,r)):∃ t c k σ2 ok t2 c2,Stp N L n s σ σ1 kd r t c k σ2 ok t2 c2:=by
 unfold oneStep at hst
 split at hst
 · rename_i t0 c ht hc
   split at hst
   · rename_i k0 hk0
     obtain⟨t,k,hk,ht2,m,ho,hr,hkk⟩:=h.mid hs hc;rw[hk0] at hk;obtain rfl:=Option.some.inj hk;obtain⟨d,hd,hran⟩:=run_ran m ho hr rfl hkk
     split at hst
     rename_i σ2 ok e;rw[e] at hran
     split at hst
     · rename_i c2 hc2
       split at hst
       · rename_i hcond
         have hoth:=others_iff hcond.2.1;have hmid:∃ t2,Mid N L (n+2) s d (σ.setC s {c with waits:=false}) σ2 t2 c2:=by
          cases ok with
          |none=>
           obtain⟨t2,c2',m2,-⟩:=hran;have e1:=m2.ca;simp only at e1;rw[hc2] at e1;obtain rfl:=Option.some.inj e1;exact⟨t2,m2⟩
          |some k'=>
           obtain⟨t2,c2',m2,-⟩:=hran;have e1:=m2.ca;simp only at e1;rw[hc2] at e1;obtain rfl:=Option.some.inj e1;exact⟨t2,m2⟩
         obtain⟨t2,m2⟩:=hmid;have hl8:s<σ2.calls.length:=by rw[m2.sh.c8];exact hs
         have ht8:s<σ2.txns.length:=by rw[m2.sh.t8];exact hs
         have hset:∀ (x:Option Cal) q,(σ2.calls.set s x).getD q none=if q=s then x else σ2.calls.getD q none:=fun x q=>getD_setO _ _ _ _ hl8
         have hox:∀ q,q≠s→σ2.txns.getD q none=σ.txns.getD q none:=fun q hq=>m2.ox q hq
         refine⟨t,c,k0,σ2,ok,t2,c2,?_⟩;unfold afterStep at hst
         split at hst
         · rename_i k'
           split at hst
           · obtain⟨rfl,hst2⟩:=Prod.mk.injEq _ _ _ _ ▸ Option.some.inj hst
             obtain⟨rfl,rfl⟩:=Prod.mk.injEq _ _ _ _ ▸ hst2;refine⟨ht2,hc,hk0,ho,hr,hkk,m,e,⟨d,m2⟩,⟨_,_,_,_,rfl⟩,fun q hq=>?_,fun q hq=>hox q hq,fun k'' e=>?_,fun e=>by cases e⟩
             · show (σ2.calls.set s _).getD q none=_
               rw[hset,if_neg hq];exact hoth q hq
             · obtain rfl:=Option.some.inj e
               refine⟨rfl,rfl,?_,m2.tx,rfl⟩;show (σ2.calls.set s _).getD s none=_;rw[hset,if_pos rfl]
           · cases hst
         · split at hst
           · split at hst
             · rename_i ho0
               split at hst
               · rename_i t2' ht2'
                 rw[m2.tx] at ht2';obtain rfl:=Option.some.inj ht2'
                 split at hst
                 · obtain⟨rfl,hst2⟩:=Prod.mk.injEq _ _ _ _ ▸ Option.some.inj hst
                   obtain⟨rfl,rfl⟩:=Prod.mk.injEq _ _ _ _ ▸ hst2;refine⟨ht2,hc,hk0,ho,hr,hkk,m,e,⟨d,m2⟩,⟨_,_,_,_,rfl⟩,fun q hq=>?_,fun q hq=>hox q hq,fun k'' e=>(by cases e),fun e=>⟨rfl,rfl,?_,.inl ⟨ho0,m2.tx,rfl⟩⟩⟩
                   · show ((σ2.calls.set s _).set s none).getD q none=_
                     rw[getD_setO _ _ _ _ (by rw[List.length_set];exact hl8),if_neg hq,hset,if_neg hq];exact hoth q hq
                   · show ((σ2.calls.set s _).set s none).getD s none=_
                     rw[getD_setO _ _ _ _ (by rw[List.length_set];exact hl8),if_pos rfl]
                 · cases hst
               · cases hst
             · rename_i ho0
               split at hst
               · obtain⟨rfl,hst2⟩:=Prod.mk.injEq _ _ _ _ ▸ Option.some.inj hst
                 obtain⟨rfl,rfl⟩:=Prod.mk.injEq _ _ _ _ ▸ hst2;refine⟨ht2,hc,hk0,ho,hr,hkk,m,e,⟨d,m2⟩,⟨_,_,_,_,rfl⟩,fun q hq=>?_,fun q hq=>?_,fun k'' e=>(by cases e),fun e=>⟨rfl,rfl,?_,.inr ⟨ho0,?_,rfl⟩⟩⟩
                 · show ((σ2.calls.set s _).set s none).getD q none=_
                   rw[getD_setO _ _ _ _ (by rw[List.length_set];exact hl8),if_neg hq,hset,if_neg hq];exact hoth q hq
                 · show (σ2.txns.set s none).getD q none=_
                   rw[getD_setO _ _ _ _ ht8,if_neg hq];exact hox q hq
                 · show ((σ2.calls.set s _).set s none).getD s none=_
                   rw[getD_setO _ _ _ _ (by rw[List.length_set];exact hl8),if_pos rfl]
                 · show (σ2.txns.set s none).getD s none=_
                   rw[getD_setO _ _ _ _ ht8,if_pos rfl]
               · cases hst
           · cases hst
       · cases hst
     · cases hst
   · cases hst
 · cases hst
end
end Go.Proofs.YtpkenfnmkpmapaaGreat.Em.Cw
