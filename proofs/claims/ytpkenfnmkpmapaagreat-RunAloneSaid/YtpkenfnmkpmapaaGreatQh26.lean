import Derived.Test.YtpkenfnmkpmapaaGreatQh25
namespace Go.Proofs.YtpkenfnmkpmapaaGreat.Em.Cw
open En
set_option linter.unusedVariables false
set_option linter.unusedSimpArgs false
set_option maxRecDepth 100000
set_option maxHeartbeats 1600000
/- A call waits only behind a wait's step. -/
def Wq (s:Nat) (b:Bool) (m:Nat) (σ:St):Prop:=(∃ c,σ.calls.getD s none=some c∧c.waits=b)∧∃ t,σ.txns.getD s none=some t∧t.ops=m
section
variable {s m:Nat} {b:Bool} {σ τ:St}
def Same2 (σ τ:St):Prop:=τ.calls=σ.calls∧τ.txns=σ.txns
theorem Wq.of (h:Wq s b m σ) (e:Same2 σ τ):Wq s b m τ:=by
 unfold Wq;rw[e.1,e.2];exact h
theorem set_some {α:Type} {l:List (Option α)} {x y:α} (h:l.getD s none=some x):(l.set s (some y)).getD s none=some y:=by
 have hl:s<l.length:=by
  by_cases hl:s<l.length
  · exact hl
  · rw[List.getD_eq_getElem?_getD,List.getElem?_eq_none (by omega)] at h;cases h
 rw[List.getD_eq_getElem?_getD,List.getElem?_set_self hl];rfl
theorem Wq.setC (h:Wq s b m σ) {c:Cal} (e:c.waits=(σ.c s).waits):Wq s b m (σ.setC s c):=by
 obtain⟨⟨c0,h1,h2⟩,h3⟩:=h;exact⟨⟨c,set_some h1,by rw[e];unfold St.c;rw[h1];exact h2⟩,h3⟩
theorem Wq.setT (h:Wq s b m σ) {t:Txn} (e:t.ops=(σ.t s).ops):Wq s b m (σ.setT s t):=by
 obtain⟨h3,⟨t0,h1,h2⟩⟩:=h;exact⟨h3,⟨t,set_some h1,by rw[e];unfold St.t;rw[h1];exact h2⟩⟩
theorem cas_calls (i o n:Nat):Same2 σ (σ.cas i o n):=by
 unfold St.cas;split<;>exact⟨rfl,rfl⟩
theorem help_calls (w:Nat):Same2 σ (σ.help w):=cas_calls _ _ _
theorem Wq.bind (h:Wq s b m σ) (tq:Nat):Wq s b m (σ.bind s tq):=by
 unfold St.bind
 split
 · exact h
 · exact (h.setT (t:={σ.t s with bonds:=(σ.t s).bonds++[tq]}) rfl).of ⟨rfl,rfl⟩
theorem listq_calls:Same2 σ σ.list:=by
 unfold St.list;split<;>exact⟨rfl,rfl⟩
theorem take_calls:Same2 σ σ.take.1:=by
 unfold St.take;dsimp only
 split<;>exact⟨(listq_calls (σ:=σ)).1,(listq_calls (σ:=σ)).2⟩
theorem give_calls (l:Nat):Same2 σ (σ.give l):=by
 unfold St.give;dsimp only
 split
 · split<;>exact⟨rfl,rfl⟩
 · exact⟨rfl,rfl⟩
theorem Wq.tellEnd (h:Wq s b m σ) (e:Ev):Wq s b m (σ.tellEnd s e):=by
 unfold St.tellEnd
 split
 · exact h
 · exact (h.setT (t:={σ.t s with over:=true}) rfl).of ⟨rfl,rfl⟩
theorem slot_calls (x:Bool) (l hd:Nat):Same2 σ (σ.slot s x l hd).1:=by
 unfold St.slot
 by_cases h0:l=0
 · rw[if_pos h0]
   have:=take_calls (σ:=σ)
   rcases e:σ.take with ⟨τ,_|l'⟩<;>rw[e] at this<;>exact this
 · rw[if_neg h0];exact⟨rfl,rfl⟩
theorem freeK_calls (l hd a:Nat):Same2 σ (σ.freeK s l hd a).1:=by
 unfold St.freeK
 split
 · exact slot_calls _ _ _
 · exact⟨rfl,rfl⟩
theorem lost_calls (l:Nat):Same2 σ (σ.lost l).1:=by
 unfold St.lost;dsimp only
 split
 · exact give_calls _
 · exact⟨rfl,rfl⟩
theorem Wq.read (h:Wq s b m σ) (k l:Nat) (g:Bool):Wq s b m (σ.read s k l g):=h.setT rfl
theorem Wq.takeKey (h:Wq s b m σ) (k:Nat) (x:Cel):Wq s b m (σ.takeKey s k x):=h.setT rfl
theorem Wq.setX (h:Wq s b m σ) (k:Nat) (x:Cel):Wq s b m (σ.setX s k x):=h.setT rfl
theorem Wq.tell (h:Wq s b m σ) (k n:Nat):Wq s b m (σ.tell s k n):=h.setC rfl
theorem Wq.finish (h:Wq s b m σ) (r:Res):Wq s b m (σ.finish s r):=h.setC rfl
theorem Wq.scanN:∀ (n:Nat) (σ:St) (k:Nat),Wq s b m σ→Wq s b m (En.scanN s n σ k).1:=by
 intro n
 induction n with
 |zero=>intro σ k h;exact h
 |succ n ih=>
  intro σ k h;unfold En.scanN
  split
  · exact h
  · split
    · refine ih _ _ ?_
      split
      · exact h.tell _ _
      · exact h
    · exact h
theorem Wq.scan (h:Wq s b m σ) (k:Nat):Wq s b m (σ.scan s k).1:=Wq.scanN _ _ _ h
theorem Wq.thn (h:Wq s b m σ) (hu:Hunt) (l:Nat):Wq s b m (σ.thn s hu l).1:=by
 unfold St.thn
 split
 · dsimp only
   split<;>exact h.read _ _ _
 · dsimp only
   refine Wq.scan ?_ _
   split
   · exact h.read _ _ _
   · exact (h.read _ _ _).tell _ _
 · dsimp only
   split
   · exact h.read _ _ _
   · split
     · exact h.read _ _ _
     · split<;>exact h
 · split<;>exact h
theorem Wq.visit (h:Wq s b m σ) (hu:Hunt) (l:Nat):Wq s b m (σ.visit s hu l).1:=by
 unfold St.visit
 split
 · exact h.thn _ _
 · exact h
theorem Wq.seen (h:Wq s b m σ) (hu:Hunt) (l y:Nat):Wq s b m (σ.seen s hu l y).1:=by
 unfold St.seen
 split
 · exact h.thn _ _
 · exact h
theorem Wq.run (h:Wq s b m σ) {k:K} (hk:∀ i,k≠.wait i):Wq s b m (σ.run s k).1:=by
 have ht:Wq s b m σ.tick:=h.of ⟨rfl,rfl⟩;have hp:∀ i v,Wq s b m (σ.put i v):=fun i v=>h.of ⟨rfl,rfl⟩
 have hc:∀ i o v,Wq s b m (σ.cas i o v):=fun i o v=>h.of (cas_calls _ _ _)
 cases k with
 |wait i=>exact absurd rfl (hk i)
 |fin r=>exact h.finish r
 |start hu=>exact ht.visit _ _
 |visit hu l=>exact ht
 |older hu l=>exact ht.visit _ _
 |maker hu l i=>
  unfold St.run;dsimp only
  split
  · exact ht
  · split<;>exact ht
 |ended hu l y=>
  unfold St.run;dsimp only
  split
  · exact ht
  · split
    · exact ht.seen _ _ _
    · exact ht
 |ender hu l y i=>
  unfold St.run;dsimp only
  split
  · exact ht.seen _ _ _
  · split
    · exact ht.bind _
    · exact ht
 |seen hu l y=>
  unfold St.run;dsimp only
  split
  · exact ht
  · refine Wq.thn ?_ _ _
    split
    · exact ht.bind _
    · exact ht
 |again e=>
  unfold St.run;dsimp only
  split
  · exact ((hp _ _).setX _ _).of ⟨rfl,rfl⟩
  · exact (hp _ _).setX _ _
 |own l=>
  unfold St.run;dsimp only
  split
  · exact ht
  · split<;>exact ht
 |ownTxn l w i=>
  unfold St.run;dsimp only
  split<;>exact ht
 |claim l w=>
  unfold St.run;dsimp only
  split
  · exact hc _ _ _
  · split
    · exact (hc _ _ _).takeKey _ _
    · exact ((hc _ _ _).takeKey _ _).of (slot_calls _ _ _)
 |fresh l=>exact ht.of (freeK_calls _ _ _)
 |next l hd a=>exact ht.of (freeK_calls _ _ _)
 |free l hd a=>
  unfold St.run;dsimp only
  split
  · exact ht
  · split
    · exact ht.of (lost_calls _)
    · exact ht
 |freeTxn l hd a i=>
  unfold St.run;dsimp only
  split
  · exact ht
  · exact ht.of (lost_calls _)
 |slotB x l hd=>exact hp _ _
 |slotE x l hd=>exact hp _ _
 |push l hd=>exact hp _ _
 |pushC l hd=>
  unfold St.run;dsimp only
  split
  · exact hc _ _ _
  · exact (hc _ _ _).takeKey _ _
 |over l=>exact ht
 |overN l hd=>exact hp _ _
 |overC l hd=>
  unfold St.run;dsimp only
  split
  · exact hc _ _ _
  · exact (hc _ _ _).setX _ _
 |draw=>
  unfold St.run;dsimp only
  split
  · exact ht
  · split<;>exact ht
 |drawH w n=>exact h.of (help_calls _)
 |turn w n=>
  unfold St.run;dsimp only
  split
  · exact hc _ _ _
  · exact Wq.of ((hc 0 w (clockW (n+1) (σ.t s).id)).setT (t:={(σ.cas 0 w (clockW (n+1) (σ.t s).id)).t s with end_:=n+1}) rfl) ⟨rfl,rfl⟩
 |helpJ=>exact h.of (help_calls _)
 |turns l r=>
  cases l with
  |nil=>exact (hp (1+s) 0).finish r
  |cons x l=>
   unfold St.run;dsimp only
   split
   · exact hp _ _
   · exact hc _ _ _
 |commit=>exact (hp _ _).tellEnd _
 |abort e r=>exact (hp _ _).tellEnd _
end
section
variable {N L n s m G M:Nat} {b:Bool} {σ τ σ1 σ2 σ4:St} {t t2:Txn} {c c2:Cal} {k:K} {ok:Option K} {kd:Nat} {r:Res} {o:En.Op}
theorem Wq.first (h:Wq s b m σ):Wq s b m (σ.first s).1:=by
 unfold St.first;dsimp only
 split
 · split<;>exact h
 · exact h.scan _
 · exact h
 · exact h
 · split
   · split
     · exact h
     · split
       · exact h
       · split
         · exact h.of (slot_calls _ _ _)
         · exact h
   · exact h
theorem Stp.ops (p:Stp N L n s σ σ1 kd r t c k σ2 ok t2 c2) (hk:∀ i,k≠.wait i):t2.ops=t.ops∧c2.waits=false:=by
 have h0:Wq s false t.ops (σ.setC s {c with waits:=false}):=⟨⟨_,p.m.ca,rfl⟩,⟨_,p.m.tx,rfl⟩⟩
 have h1:=h0.run hk;rw[p.run] at h1;obtain⟨⟨c',e1,e2⟩,⟨t',e3,e4⟩⟩:=h1;obtain⟨d,m2⟩:=p.m2;rw[m2.ca] at e1;rw[m2.tx] at e3;obtain rfl:=Option.some.inj e1;obtain rfl:=Option.some.inj e3;exact⟨e4,e2⟩
theorem Isp.ops (p:Isp N L n s σ σ1 o t k σ4 t2 c2):t2.ops≤t.ops+1:=by
 have h0:Wq s false (issueT o t).ops (issueSt σ s o t):=⟨⟨_,p.m.ca,rfl⟩,⟨_,p.m.tx,rfl⟩⟩
 have h1:=h0.first;rw[p.run] at h1;obtain⟨-,⟨t',e3,e4⟩⟩:=h1;rw[p.m2.tx] at e3;obtain rfl:=Option.some.inj e3;rw[e4];unfold issueT
 split
 · exact Nat.le_succ _
 · exact Nat.le_refl _
def Jd (h:Hunt):Prop:=∃ i l,h.thn=.judge i l
def EndK:K→Prop
 |.start h|.visit h _|.older h _|.maker h _ _|.ended h _ _|.ender h _ _ _|.seen h _ _=>Jd h
 |.draw|.drawH _ _|.turn _ _|.helpJ|.wait _|.commit|.abort _ _|.turns _ _=>True
 |_=>False
theorem EndK.judge (t:Txn) (i:Nat):EndK (judgeK t i):=by
 unfold judgeK;dsimp only
 split
 · unfold waitK
   split<;>trivial
 · exact⟨_,_,rfl⟩
theorem EndK.thn {h:Hunt} (hj:Jd h) (l:Nat):EndK (σ.thn s h l).2:=by
 obtain⟨i,l',e⟩:=hj;unfold St.thn;rw[e];dsimp only
 split
 · trivial
 · exact EndK.judge _ _
theorem EndK.visit {h:Hunt} (hj:Jd h) (l:Nat):EndK (σ.visit s h l).2:=by
 unfold St.visit
 split
 · exact EndK.thn hj _
 · exact hj
theorem EndK.seen {h:Hunt} (hj:Jd h) (l y:Nat):EndK (σ.seen s h l y).2:=by
 unfold St.seen
 split
 · exact EndK.thn hj _
 · exact hj
theorem EndK.run (hk:EndK k):(∃ k',(σ.run s k).2=some k'∧EndK k')∨∃ r,k=.turns [] r:=by
 cases k with
 |start h=>exact .inl ⟨_,rfl,EndK.visit hk _⟩
 |visit h l=>
  refine .inl ⟨_,rfl,?_⟩;unfold St.beginK
  split
  · exact hk
  · split<;>exact hk
 |older h l=>exact .inl ⟨_,rfl,EndK.visit hk _⟩
 |maker h l i=>
  unfold St.run;dsimp only
  split
  · exact .inl ⟨_,rfl,hk⟩
  · split<;>exact .inl ⟨_,rfl,hk⟩
 |ended h l y=>
  unfold St.run;dsimp only
  split
  · exact .inl ⟨_,rfl,hk⟩
  · split
    · exact .inl ⟨_,rfl,EndK.seen hk _ _⟩
    · exact .inl ⟨_,rfl,hk⟩
 |ender h l y i=>
  unfold St.run;dsimp only
  split
  · exact .inl ⟨_,rfl,EndK.seen hk _ _⟩
  · split<;>exact .inl ⟨_,rfl,hk⟩
 |seen h l y=>
  unfold St.run;dsimp only
  split
  · exact .inl ⟨_,rfl,hk⟩
  · exact .inl ⟨_,rfl,EndK.thn hk _⟩
 |draw=>
  unfold St.run;dsimp only
  split
  · exact .inl ⟨_,rfl,trivial⟩
  · split<;>exact .inl ⟨_,rfl,trivial⟩
 |drawH w now=>exact .inl ⟨_,rfl,trivial⟩
 |turn w now=>
  unfold St.run;dsimp only
  split<;>exact .inl ⟨_,rfl,trivial⟩
 |helpJ=>exact .inl ⟨_,rfl,EndK.judge _ _⟩
 |wait i=>
  unfold St.run;dsimp only
  split
  · refine .inl ⟨_,rfl,?_⟩
    unfold waitK
    split<;>trivial
  · split<;>exact .inl ⟨_,rfl,trivial⟩
 |commit=>exact .inl ⟨_,rfl,trivial⟩
 |abort e r=>exact .inl ⟨_,rfl,trivial⟩
 |turns l r=>
  cases l with
  |nil=>exact .inr ⟨r,rfl⟩
  |cons x l=>exact .inl ⟨_,rfl,trivial⟩
 |_=>exact hk.elim
theorem Stp.ends (p:Stp N L n s σ σ1 kd r t c k σ2 ok t2 c2) (hk:EndK k):(∃ k',ok=some k'∧EndK k')∨(ok=none∧c2.r.over≠0):=by
 rcases hk.run (σ:=σ.setC s {c with waits:=false}) (s:=s) with h|⟨x,rfl⟩
 · rw[p.run] at h;exact .inl h
 · have e:=p.run
   have hov:=p.kok.1;obtain⟨d,m2⟩:=p.m2;have e1:(((σ.setC s {c with waits:=false}).put (1+s) 0).finish s x,(none:Option K))=(σ2,ok):=e;obtain⟨e2,e3⟩:=Prod.mk.injEq _ _ _ _ ▸ e1;refine .inr ⟨e3.symm,?_⟩;have hr:c2.r=x:=by
    have h1:=m2.ec;rw[←h1,←e2];show ((((σ.setC s {c with waits:=false}).calls.set s (some {((σ.setC s {c with waits:=false}).put (1+s) 0).c s with r:=x,over:=true})).getD s none).getD default).r=x;rw[set_some p.m.ca];rfl
   rw[hr];omega
def _root_.Go.Proofs.YtpkenfnmkpmapaaGreat.En.St.mu (σ:St) (N s:Nat):Nat:=if σ.late s=true then σ.lm s else σ.Phi N s+2202
theorem EI.lone (h:EI N L G M σ) (hG:2000≤G) (hG9:G<900000) (hM:M<1000000000000) (hs:s<8) (hc:σ.calls.getD s none=some c) (ht:σ.txns.getD s none=some t) (hb:t.bonds=[]):
 ∃ σ1 kd r,oneStep σ s=some (σ1,kd,r)∧EI N L G (M+1) σ1∧σ1.made=σ.made∧(∀ q,q≠s→σ1.txns.getD q none=σ.txns.getD q none∧σ1.calls.getD q none=σ.calls.getD q none)
  ∧ ((kd = 1 ∧ σ1.mu N s + 1 ≤ σ.mu N s ∧ ∃ c1 t1, σ1.calls.getD s none = some c1 ∧ σ1.txns.getD s none = some t1 ∧ t1.ops = t.ops)
    ∨(kd=3∧σ1.calls.getD s none=none∧((r.over=0∧∃ t1,σ1.txns.getD s none=some t1∧t1.ops=t.ops)∨(r.over≠0∧σ1.txns.getD s none=none))))
  ∧(∀ k,c.k=some k→EndK k→(kd=1→∃ c1 k1,σ1.calls.getD s none=some c1∧c1.k=some k1∧EndK k1)∧(kd=3→r.over≠0)):=by
 have hct:=h.ct;have hlk:=h.lk;have hsq:=h.sq;obtain⟨σ1,kd,r,hst,hwf,hc1,hc2,hl1,hl2,hsq1,hmd,-⟩:=h.li.wf.step hs hc (by omega) (by omega) (by omega);obtain⟨t',c',k,σ2,ok,t2,c2,p⟩:=h.li.wf.parts hs hst;have e1:=p.ca;rw[hc] at e1;obtain rfl:=Option.some.inj e1;have e2:=p.tx;rw[ht] at e2;obtain rfl:=Option.some.inj e2;have hg:=step_gam h.li.ti h.li.wf hs p;have hli:=h.li.step hs hst hwf;have hga:σ1.Gam≤G:=Nat.le_trans hg h.ga;have hcu:σ1.cuts≤G:=by rw[p.cuts];exact h.cu
 have T:=turned_step h.li hs p;have hkw:∀ i,k≠.wait i:=by
  rintro i rfl;have hi:i<t.bonds.length:=p.kok;rw[hb] at hi;exact Nat.not_lt_zero _ hi
 obtain⟨ho,hw⟩:=p.ops hkw;refine⟨σ1,kd,r,hst,⟨hli.sharp (by unfold St.Gam at hga;omega) hcu hG,by omega,by omega,by omega,hga,hcu⟩,hmd,fun q hq=>⟨p.ox q hq,p.oc q hq⟩,?_,fun k0 hk0 hE=>?_⟩;rotate_left
 · rw[p.ck] at hk0
   obtain rfl:=Option.some.inj hk0
   rcases p.ends hE with ⟨k',e,hE'⟩|⟨e,hv⟩
   · obtain⟨g1,-,g3,-⟩:=p.go k' e
     rw[hw] at g1;exact⟨fun _=>⟨_,k',g3,rfl,hE'⟩,fun e3=>absurd (g1.symm.trans e3) (by decide)⟩
   · obtain⟨g1,g2,-⟩:=p.no e
     exact⟨fun e3=>absurd (g1.symm.trans e3) (by decide),fun _=>by rw[g2];exact hv⟩
 cases ok with
 |none=>
  obtain⟨g1,g2,g3,g4⟩:=p.no rfl;refine .inr ⟨g1,g3,?_⟩
  rcases g4 with ⟨a,b,-⟩|⟨a,b,-⟩
  · exact .inl ⟨by rw[g2];exact a,t2,b,ho⟩
  · exact .inr ⟨by rw[g2];exact a,b⟩
 |some k'=>
  obtain⟨g1,g2,g3,g4,g5⟩:=p.go k' rfl;rw[hw] at g1;refine .inl ⟨g1,?_,_,t2,g3,g4,ho⟩;have hng:¬ gone σ1 s:=by unfold gone;rw[g4];intro e;cases e
  have hll:=lm_le hli s;unfold St.mu
  by_cases hl:σ.late s=true
  · have hl1:=(T.lt s hl).resolve_left hng
    rw[if_pos hl,if_pos hl1];refine (T.ls hl).2 ?_;rw[prog_of p.kof p.tx];have hlk:late k=true:=by rw[←(rem_busy (N:=N) p.tx p.ca p.ck).2.2];exact hl
    cases k with
    |wait i=>exact absurd rfl (hkw i)
    |turns l r=>trivial
    |commit=>trivial
    |abort e r=>trivial
    |_=>cases hlk
  · rw[if_neg hl]
    split
    · omega
    · rename_i hl1
      have:=(T.me.resolve_left hng).resolve_left hl1;omega
end
section
variable {N L n s G M F:Nat} {σ σ':St} {t:Txn} {c0:Cal}
theorem first_end (h:σ.calls.getD s none=some c0) (ho:c0.op.kind=6):EndK (σ.first s).2:=by
 have e:σ.c s=c0:=by unfold St.c;rw[h];rfl
 unfold St.first;rw[e];dsimp only;rw[ho]
 trivial
theorem LI.toEI1 (h:LI N L n σ) (hs:s<8) (hg:∀ q,q≠s→σ.txns.getD q none=none) (hc:σ.count≤M) (hl:σ.looks≤M) (hsq:σ.seq≤M):EI N L (n+4004) M σ:=by
 have h0:∀ q,q≠s→σ.gam q=0:=by
  intro q hq;unfold St.gam;rw[hg q hq]
 have h1:σ.gam s≤2004:=by
  unfold St.gam
  split
  · exact Nat.zero_le _
  · rename_i t _
    have:=(opK_le t (σ.kOf s)).2
    split<;>split<;>omega
 have hgm:σ.Gam≤n+4004:=by
  have:=h.wf.sh.tl;unfold St.Gam;have h8:sum8 σ.gam≤2004:=by
   rcases (by omega:s=0∨s=1∨s=2∨s=3∨s=4∨s=5∨s=6∨s=7) with rfl|rfl|rfl|rfl|rfl|rfl|rfl|rfl<;>
   · unfold sum8
     rw[show ∀ a b c d e f g h:Nat,a+b+c+d+e+f+g+h=a+b+c+d+e+f+g+h from fun _ _ _ _ _ _ _ _=>rfl];have q0:=h0 0;have q1:=h0 1;have q2:=h0 2;have q3:=h0 3;have q4:=h0 4;have q5:=h0 5;have q6:=h0 6;have q7:=h0 7;simp at q0 q1 q2 q3 q4 q5 q6 q7;omega
  omega
 have hcu:=h.wf.sx.cb;have htl:=h.wf.sh.tl;exact⟨h.mono (by omega),hc,hl,hsq,by omega,by omega⟩
end
section
variable {N L n s q cq d kd:Nat} {σ τ υ σ1 σ2 σ4:St} {t t0 t2 u u2:Txn} {c c2:Cal} {r:Res} {k:K} {ok:Option K} {o:En.Op}
theorem Stp.cop (p:Stp N L n s σ σ1 kd r t c k σ2 ok t2 c2):c2.op=c.op:=by
 obtain⟨d,m2⟩:=p.m2;rw[m2.oq.1];have e:(σ.setC s {c with waits:=false}).c s={c with waits:=false}:=p.m.ec;rw[e]
end
section
variable {N L n s q cq d kd:Nat} {σ τ υ σ1 σ2 σ4:St} {t t0 t2 u u2:Txn} {c c2:Cal} {r:Res} {k:K} {ok:Option K} {o:En.Op}
theorem Isp.tops (p:Isp N L n s σ σ1 o t k σ4 t2 c2):t2.ops=(issueT o t).ops∧c2.op=o:=by
 have h0:Wq s false (issueT o t).ops (issueSt σ s o t):=⟨⟨_,p.m.ca,rfl⟩,⟨_,p.m.tx,rfl⟩⟩
 have h1:=h0.first;rw[p.run] at h1;obtain⟨-,⟨t',e3,e4⟩⟩:=h1;rw[p.m2.tx] at e3;obtain rfl:=Option.some.inj e3;refine⟨e4,?_⟩;rw[p.m2.oq.1,p.m.ec];rfl
end
/- Which versions lie in a key's chain. -/
def Reach (σ:St) (h l:Nat):Prop:=∃ ls,Chain σ h ls∧l∈ls
def InC (σ:St) (y l:Nat):Prop:=Reach σ (σ.word (9+y)) l
section
variable {N L n s q cq d kd:Nat} {σ τ υ σ1 σ2 σ4:St} {t t0 t2 u u2:Txn} {c c2:Cal} {r:Res} {k:K} {ok:Option K} {o:En.Op} {C:Nat→List Nat} {O:Nat→Nat} {y l h:Nat}
theorem Chain.uniq:∀ {ls ms:List Nat} {h:Nat},Chain σ h ls→Chain σ h ms→ls=ms
 |[],[],_,_,_=>rfl
 |[],m::ms,h,a,b=>absurd (show h=0 from a) (by rw[b.1];exact b.2.1)
 |l::ls,[],h,a,b=>absurd (show h=0 from b) (by rw[a.1];exact a.2.1)
 |l::ls,m::ms,h,a,b=>by
  have e:l=m:=a.1.symm.trans b.1;subst e;rw[Chain.uniq a.2.2 b.2.2]
theorem CS.inC (hc:CS N σ C O) (hy:y<64):InC σ y l↔l∈C y:=
 ⟨fun ⟨ls,h1,h2⟩=>by rw[←Chain.uniq h1 (hc.ch y hy)];exact h2,fun h=>⟨C y,hc.ch y hy,h⟩⟩
theorem Stp.nexts (p:Stp N L n s σ σ1 kd r t c k σ2 ok t2 c2) (hw:WF N L n σ) (hv:Pv N σ O s c.seq k):
 (∀ x,LK N x→O (slotOf x)≠100+s→σ1.word (wslot x 2)=σ.word (wslot x 2))∧
 (∀ y,y<64→σ1.word (9+y)=σ.word (9+y)∨∃ link head,(k=.pushC link head∨k=.overC link head)∧y=c.op.key∧σ.word (9+y)=head∧σ1.word (9+y)=link):=by
 have hp:∀ id,σ.place id=73+N*3+id:=hw.sh.place;have hp':∀ id,(σ.setC s {c with waits:=false}).place id=73+N*3+id:=hp;have et:=p.m.et;have ec:=p.m.ec
 cases e:wr (σ.setC s {c with waits:=false}) s k with
 |none=>exact⟨fun x _ _=>p.none_w e _,fun y _=>.inl (p.none_w e _)⟩
 |some jv=>
  obtain⟨j,v⟩:=jv;have hs:=p.some_w e;have far:¬ Pl N j→(∀ x,LK N x→O (slotOf x)≠100+s→σ1.word (wslot x 2)=σ.word (wslot x 2))∧(∀ y,y<64→σ1.word (9+y)=σ.word (9+y)∨∃ link head,(k=.pushC link head∨k=.overC link head)∧y=c.op.key∧σ.word (9+y)=head∧σ1.word (9+y)=link):=fun hj=>
   ⟨fun x hx _=>(hs _).1 (fun e=>hj (e ▸ Pl.next hx)),fun y hy=>.inl ((hs _).1 (fun e=>hj (e ▸ Pl.head hy)))⟩
  have priv:∀ l,LK N l→O (slotOf l)=100+s→j=wslot l 2→(∀ x,LK N x→O (slotOf x)≠100+s→σ1.word (wslot x 2)=σ.word (wslot x 2))∧(∀ y,y<64→σ1.word (9+y)=σ.word (9+y)∨∃ link head,(k=.pushC link head∨k=.overC link head)∧y=c.op.key∧σ.word (9+y)=head∧σ1.word (9+y)=link):=fun l hl ho hj=>
   ⟨fun x hx hne => (hs _).1 (fun e => hne (by
     have:slotOf x=slotOf l:=by rw[hj] at e;unfold wslot at e;omega
     rw[this];exact ho)),fun y hy=>.inl ((hs _).1 (by rw[hj];have:=hl.slotOf;unfold wslot;omega))⟩
  have hd:∀ link head,(k=.pushC link head∨k=.overC link head)→σ.word (9+c.op.key)=head→j=9+c.op.key→v=link→c.op.key<64→(∀ x,LK N x→O (slotOf x)≠100+s→σ1.word (wslot x 2)=σ.word (wslot x 2))∧(∀ y,y<64→σ1.word (9+y)=σ.word (9+y)∨∃ link head,(k=.pushC link head∨k=.overC link head)∧y=c.op.key∧σ.word (9+y)=head∧σ1.word (9+y)=link):=fun link head hk h1 h2 h3 h4=>
   ⟨fun x hx _ => (hs _).1 (by rw [h2]; have := hx.slotOf; unfold wslot; omega), fun y hy => by
     by_cases ey:y=c.op.key
     · subst ey
       refine .inr ⟨link,head,hk,rfl,h1,?_⟩
       rw[←h3,←h2]
       exact (hs 0).2 (by rw[h2,hw.sh.nw];omega)
     · exact .inl ((hs _).1 (by omega))⟩
  have hkey:c.op.key<64:=opKey p.m.op;have ecw:((σ.setC s {c with waits:=false}).c s).op.key=c.op.key:=by rw[ec]
  cases k with
  |again e'=>
   obtain⟨rfl,-⟩:=Prod.mk.injEq _ _ _ _ ▸ Option.some.inj e;exact far (noPl_slot (by omega))
  |claim link w=>
   simp only[wr] at e
   split at e
   · obtain⟨rfl,-⟩:=Prod.mk.injEq _ _ _ _ ▸ Option.some.inj e
     exact far (noPl_slot (by omega))
   · cases e
  |slotB x l h=>
   obtain⟨rfl,-⟩:=Prod.mk.injEq _ _ _ _ ▸ Option.some.inj e;exact far (noPl_slot (by omega))
  |slotE x l h=>
   obtain⟨rfl,-⟩:=Prod.mk.injEq _ _ _ _ ▸ Option.some.inj e;exact far (noPl_slot (by omega))
  |push l h=>
   obtain⟨rfl,-⟩:=Prod.mk.injEq _ _ _ _ ▸ Option.some.inj e;exact priv l p.kok.1 hv rfl
  |overN l h=>
   obtain⟨rfl,-⟩:=Prod.mk.injEq _ _ _ _ ▸ Option.some.inj e;exact priv l p.kok.1 hv rfl
  |pushC l h=>
   simp only[wr,ecw] at e
   split at e
   · rename_i h1
     obtain⟨rfl,rfl⟩:=Prod.mk.injEq _ _ _ _ ▸ Option.some.inj e;exact hd _ h (.inl rfl) h1 rfl rfl hkey
   · cases e
  |overC l h=>
   simp only[wr,ecw] at e
   split at e
   · rename_i h1
     obtain⟨rfl,rfl⟩:=Prod.mk.injEq _ _ _ _ ▸ Option.some.inj e;exact hd _ h (.inr rfl) h1 rfl rfl hkey
   · cases e
  |drawH w now=>
   simp only[wr] at e
   split at e
   · obtain⟨rfl,-⟩:=Prod.mk.injEq _ _ _ _ ▸ Option.some.inj e
     rw[hp'] at *;exact far noPl_place
   · cases e
  |turn w now=>
   simp only[wr] at e
   split at e
   · obtain⟨rfl,-⟩:=Prod.mk.injEq _ _ _ _ ▸ Option.some.inj e
     exact far noPl_clock
   · cases e
  |helpJ=>
   simp only[wr] at e
   split at e
   · obtain⟨rfl,-⟩:=Prod.mk.injEq _ _ _ _ ▸ Option.some.inj e
     rw[hp'] at *;exact far noPl_place
   · cases e
  |commit=>
   obtain⟨rfl,-⟩:=Prod.mk.injEq _ _ _ _ ▸ Option.some.inj e;rw[hp'] at *;exact far noPl_place
  |abort a b=>
   obtain⟨rfl,-⟩:=Prod.mk.injEq _ _ _ _ ▸ Option.some.inj e;rw[hp'] at *;exact far noPl_place
  |turns tl r0=>
   cases tl with
   |nil=>
    obtain⟨rfl,-⟩:=Prod.mk.injEq _ _ _ _ ▸ Option.some.inj e;exact far (noPl_live p.m.s8)
   |cons x tl=>
    simp only[wr] at e
    split at e
    · obtain⟨rfl,-⟩:=Prod.mk.injEq _ _ _ _ ▸ Option.some.inj e
      exact far (hv x List.mem_cons_self)
    · cases e
  |_=>simp[wr] at e
theorem Chain.kept (hn:∀ x,LK N x→O (slotOf x)≠100+s→σ1.word (wslot x 2)=σ.word (wslot x 2)) {ls:List Nat} (hl:∀ x∈ls,LK N x∧O (slotOf x)≠100+s) (hc:Chain σ h ls):Chain σ1 h ls:=
 hc.cong fun x hx=>hn x (hl x hx).1 (hl x hx).2
theorem CS.owns (hc:CS N σ C O) (hy:y<64) (hs:s<8):∀ x∈C y,LK N x∧O (slotOf x)≠100+s:=fun x hx=>⟨(hc.lo y hy x hx).1,by rw[(hc.lo y hy x hx).2];omega⟩
theorem Stp.chains (p:Stp N L n s σ σ1 kd r t c k σ2 ok t2 c2) (hw:WF N L n σ) (hc:CS N σ C O) (hv:Pv N σ O s c.seq k) (hs:s<8) (hy:y<64):
 Chain σ1 (σ1.word (9+y)) (C y)∨∃ link,(k=.pushC link (σ.word (9+y))∨k=.overC link (σ.word (9+y)))∧y=c.op.key∧σ1.word (9+y)=link∧Chain σ1 (σ1.word (9+y)) (link::C y):=by
 obtain⟨h1,h2⟩:=p.nexts hw hv;have hk:=(hc.ch y hy).kept h1 (hc.owns hy hs)
 rcases h2 y hy with e|⟨link,head,hk',ey,e1,e2⟩
 · left;rw[e];exact hk
 · right
   have hlk:LK N link∧O (slotOf link)=100+s∧σ.word (wslot link 2)=head:=by
    rcases hk' with rfl|rfl
    · exact⟨p.kok.1,hv.1,hv.2⟩
    · exact⟨p.kok.1,hv.1,hv.2⟩
   have hnx:σ1.word (wslot link 2)=head:=by
    have hwr:wr (σ.setC s {c with waits:=false}) s k=some (9+c.op.key,link):=by
     have ecw:((σ.setC s {c with waits:=false}).c s).op.key=c.op.key:=by rw[p.m.ec]
     rcases hk' with rfl|rfl<;>(simp only[wr,ecw];rw[if_pos (by rw[←ey];exact e1)])
    rw[(p.some_w hwr _).1 (by have:=hlk.1.slotOf;have:=opKey p.m.op;unfold wslot;omega)];exact hlk.2.2
   refine⟨link,by rw[e1];exact hk',ey,e2,?_⟩;rw[e2];exact⟨rfl,hlk.1.ne,by rw[hnx,←e1];exact hk⟩
end
/- What versions,calls and records say of one another. -/
def stO (σ:St) (id:Nat):Nat:=stateOf (σ.word (σ.place id))
def privOf:K→Nat
 |.fresh l|.next l _ _|.free l _ _|.freeTxn l _ _ _|.slotB _ l _|.slotE _ l _|.push l _|.pushC l _|.over l|.overN l _|.overC l _=>l
 |_=>0
/- What a hunt's steps do tq the pool,and tq the record. -/
def Pe (σ τ:St):Prop:=τ.tags=σ.tags∧τ.free=σ.free∧τ.listed=σ.listed
theorem Pe.refl (σ:St):Pe σ σ:=⟨rfl,rfl,rfl⟩
theorem Pe.trans {σ τ υ:St} (a:Pe σ τ) (b:Pe τ υ):Pe σ υ:=⟨b.1.trans a.1,b.2.1.trans a.2.1,b.2.2.trans a.2.2⟩
theorem cas_pe (σ:St) (i o v:Nat):Pe σ (σ.cas i o v):=by unfold St.cas;split<;>exact⟨rfl,rfl,rfl⟩
theorem scanN_pe (s:Nat):∀ (n:Nat) (σ:St) (key:Nat),Pe σ (scanN s n σ key).1
 |0,σ,key=>Pe.refl σ
 |n+1,σ,key=>by
  unfold scanN
  split
  · exact Pe.refl σ
  · split
    · refine Pe.trans ?_ (scanN_pe s n _ _)
      split<;>exact⟨rfl,rfl,rfl⟩
    · exact Pe.refl σ
theorem thn_pe (σ:St) (s:Nat) (h:Hunt) (l:Nat):Pe σ (σ.thn s h l).1:=by
 unfold St.thn
 split
 · simp only;split<;>exact⟨rfl,rfl,rfl⟩
 · simp only;refine Pe.trans ?_ (scanN_pe s _ _ _);split<;>exact⟨rfl,rfl,rfl⟩
 · simp only;(repeat' split)<;>exact⟨rfl,rfl,rfl⟩
 · split<;>exact⟨rfl,rfl,rfl⟩
theorem visit_pe (σ:St) (s:Nat) (h:Hunt) (l:Nat):Pe σ (σ.visit s h l).1:=by unfold St.visit;split;exact thn_pe _ _ _ _;exact Pe.refl _
theorem seen_pe (σ:St) (s:Nat) (h:Hunt) (l m:Nat):Pe σ (σ.seen s h l m).1:=by unfold St.seen;split;exact thn_pe _ _ _ _;exact Pe.refl _
theorem bind_pe (σ:St) (s b:Nat):Pe σ (σ.bind s b):=by unfold St.bind;split<;>exact⟨rfl,rfl,rfl⟩
theorem t_of_txns {σ τ:St} {s:Nat} (h:τ.txns=σ.txns):τ.t s=σ.t s:=by unfold St.t;rw[h]
theorem scanN_tx (s:Nat):∀ (n:Nat) (σ:St) (key:Nat),(scanN s n σ key).1.txns=σ.txns
 |0,σ,key=>rfl
 |n+1,σ,key=>by
  unfold scanN
  split
  · rfl
  · split
    · rw[scanN_tx s n];split<;>rfl
    · rfl
theorem setT_t (σ:St) (s:Nat) (t:Txn) (hs:s<σ.txns.length):(σ.setT s t).t s=t:=by
 unfold St.t St.setT;simp only;rw[getD_setO _ _ _ _ hs,if_pos rfl];rfl
section
variable {N L n s q cq d kd i:Nat} {σ τ υ σ1 σ2 σ4:St} {T T1:Nat→Txn} {X:Nat→Nat→Prop} {t t0 t2 u u2:Txn} {c c2:Cal} {r:Res} {k:K} {ok:Option K} {o:En.Op} {C:Nat→List Nat} {O:Nat→Nat} {y l h M:Nat}
theorem rd_time {w:Nat} (h:w≤tm):rd w=(1,w):=by unfold rd;rw[if_pos h]
theorem rd_txn {M:Nat} (h1:1≤M) (h2:M≤65535):rd (txnBit+M)=(2,M):=by
 have e1:tm=1099511627776:=rfl;have e2:txnBit=4611686018427387904:=rfl;have e3:ever=2305843009213693952:=rfl;unfold rd;rw[if_neg (by omega),if_neg (by omega),if_pos ⟨by omega,by omega⟩,show txnBit+M - txnBit=M by omega]
theorem rd_ever:rd ever=(3,0):=by decide
end
section
variable {N L n s q cq d kd i:Nat} {σ τ υ σ1 σ2 σ4:St} {T T1:Nat→Txn} {X:Nat→Nat→Prop} {t t0 t2 u u2:Txn} {c c2:Cal} {r:Res} {k:K} {ok:Option K} {o:En.Op} {C:Nat→List Nat} {O:Nat→Nat} {y l M:Nat} {h:Hunt}
theorem Pv.priv {k:K} (hv:Pv N σ O s q k) (h0:privOf k≠0):O (slotOf (privOf k))=100+s:=by
 cases k with
 |fresh l=>exact hv h0
 |next l a b=>exact hv.1 h0
 |free l a b=>exact hv.1 h0
 |freeTxn l a b id=>exact hv.1 h0
 |slotB x l a=>exact hv
 |slotE x l a=>exact hv
 |push l a=>exact hv
 |pushC l a=>exact hv.1
 |over l=>exact hv
 |overN l a=>exact hv
 |overC l a=>exact hv.1
 |_=>exact absurd rfl h0
end
section
variable {N L n s q cq d kd i:Nat} {σ τ υ σ1 σ2 σ4:St} {T T1:Nat→Txn} {X:Nat→Nat→Prop} {t t0 t2 u u2:Txn} {c c2:Cal} {r:Res} {k:K} {ok:Option K} {o:En.Op} {C:Nat→List Nat} {O:Nat→Nat} {y l M:Nat} {h:Hunt}
theorem Stp.t2s (p:Stp N L n s σ σ1 kd r t c k σ2 ok t2 c2):σ2.t s=t2:=by obtain⟨d,m2⟩:=p.m2;exact m2.et
theorem Stp.t2x (p:Stp N L n s σ σ1 kd r t c k σ2 ok t2 c2) (h:σ2.txns=σ.txns):t2=t:=by
 rw[←p.t2s];unfold St.t;rw[h,p.tx];rfl
end
section
variable {N L n s q cq d kd i:Nat} {σ τ υ σ1 σ2 σ4:St} {T T1:Nat→Txn} {X:Nat→Nat→Prop} {t t0 t2 u u2:Txn} {c c2:Cal} {r:Res} {k:K} {ok:Option K} {o:En.Op} {C:Nat→List Nat} {O:Nat→Nat} {y l M:Nat} {h:Hunt}
theorem Stp.pl (p:Stp N L n s σ σ1 kd r t c k σ2 ok t2 c2):∀ id,σ1.place id=σ.place id:=fun id=>by unfold St.place;rw[p.slots]
end
section
variable {N L n s q cq d kd i:Nat} {σ τ υ σ1 σ2 σ4:St} {T T1:Nat→Txn} {X:Nat→Nat→Prop} {t t0 t2 u u2:Txn} {c c2:Cal} {r:Res} {k:K} {ok:Option K} {o:En.Op} {C:Nat→List Nat} {O:Nat→Nat} {y l M:Nat} {h:Hunt}
theorem cell_take (t:Txn) (key:Nat) (x:Cel):({t with cells:=(key,x)::t.cells,keys:=t.keys++[key]}:Txn).cell key=some x:=by unfold Txn.cell;rw[List.lookup_cons];simp
theorem cell_take_ne (t:Txn) {key z:Nat} (x:Cel) (h:z≠key):({t with cells:=(key,x)::t.cells,keys:=t.keys++[key]}:Txn).cell z=t.cell z:=by
 unfold Txn.cell;rw[List.lookup_cons];have:(z==key)=false:=by simpa using h
 rw[this]
theorem cell_upd (t:Txn) {key:Nat} {x x':Cel} (h:t.cell key=some x'):({t with cells:=upd t.cells key x}:Txn).cell key=some x:=by
 unfold Txn.cell at h ⊢;rw[lookup_upd,h];simp
theorem cell_upd_ne (t:Txn) {key z:Nat} (x:Cel) (h:z≠key):({t with cells:=upd t.cells key x}:Txn).cell z=t.cell z:=by
 unfold Txn.cell;rw[lookup_upd]
 cases t.cells.lookup z<;>simp[h]
end
section
variable {N L n s q cq d kd i:Nat} {σ τ υ σ1 σ2 σ4:St} {T T1:Nat→Txn} {X:Nat→Nat→Prop} {t t0 t2 u u2:Txn} {c c2:Cal} {r:Res} {k:K} {ok:Option K} {o:En.Op} {C:Nat→List Nat} {O:Nat→Nat} {y l M:Nat} {h:Hunt}
theorem slot_tx (υ:St) (s:Nat) (x:Bool) (l hd:Nat):(υ.slot s x l hd).1.txns=υ.txns:=by
 have hl:∀ υ:St,υ.list.txns=υ.txns:=fun υ=>by unfold St.list;split<;>rfl
 have ht:υ.take.1.txns=υ.txns:=by
  unfold St.take;simp only
  split<;>exact hl _
 unfold St.slot
 by_cases h0:l=0
 · simp only[if_pos h0]
   cases e:υ.take with
   |mk τ o=>
    rw[e] at ht
    cases o<;>exact ht
 · simp only[if_neg h0]
end
section
variable {N L n n1 s q cq d kd i:Nat} {σ τ υ σ1 σ2 σ4:St} {T T1:Nat→Txn} {X:Nat→Nat→Prop} {t t0 t2 u u2:Txn} {c c2:Cal} {r:Res} {k:K} {ok:Option K} {o:En.Op} {C:Nat→List Nat} {O:Nat→Nat} {y l M:Nat} {h:Hunt}
theorem setC_c (σ:St) (s:Nat) (c:Cal) (hs:s<σ.calls.length):(σ.setC s c).c s=c:=by
 unfold St.c St.setC;rw[getD_setO _ _ _ _ hs,if_pos rfl];rfl
def huntOf:K→Option Hunt
 |.start h|.visit h _|.older h _|.maker h _ _|.ended h _ _|.ender h _ _ _|.seen h _ _=>some h
 |_=>none
end
section
variable {N L n n1 s q cq d kd i:Nat} {σ τ υ σ1 σ2 σ4:St} {T T1:Nat→Txn} {X:Nat→Nat→Prop} {t t0 t2 u u2:Txn} {c c2:Cal} {r:Res} {k:K} {ok:Option K} {o:En.Op} {C:Nat→List Nat} {O:Nat→Nat} {y l M:Nat} {h:Hunt}
theorem read_t (σ:St) (s key l:Nat) (g:Bool) (hs:s<σ.txns.length):(σ.read s key l g).t s={σ.t s with reads:=(σ.t s).reads++[(key,l,g)]}:=by unfold St.read;rw[setT_t _ _ _ hs]
end
section
variable {N L n n1 s q cq d kd i a b:Nat} {σ τ υ σ1 σ2 σ4:St} {t t0 t2 u u2:Txn} {c c2:Cal} {r:Res} {k k':K} {ok:Option K} {o:En.Op} {C:Nat→List Nat} {O:Nat→Nat} {y l v M:Nat} {h:Hunt}
def topL (σ:St):List Nat→Nat
 |[]=>0
 |l::ls=>if σ.word (wslot l 1)=ever then l else topL σ ls
def TopF (σ:St) (h v:Nat):Prop:=∃ ls,Chain σ h ls∧v=topL σ ls
theorem TopF.uniq (h1:TopF σ l v) (h2:TopF σ l a):v=a:=by
 obtain⟨ls,a1,rfl⟩:=h1;obtain⟨ms,b1,rfl⟩:=h2;rw[Chain.uniq a1 b1]
theorem TopF.zero:TopF σ 0 0:=⟨[],rfl,rfl⟩
theorem TopF.of0 (h:TopF σ 0 v):v=0:=h.uniq TopF.zero
theorem TopF.head (h0:l≠0) (h:TopF σ l v) (hw:σ.word (wslot l 1)=ever):v=l:=by
 obtain⟨ls,h1,rfl⟩:=h
 cases ls with
 |nil=>exact absurd h1 h0
 |cons x ls=>obtain⟨rfl,-,-⟩:=h1;unfold topL;rw[if_pos hw]
theorem TopF.next (h0:l≠0) (h:TopF σ l v) (hw:σ.word (wslot l 1)≠ever):TopF σ (σ.word (wslot l 2)) v:=by
 obtain⟨ls,h1,rfl⟩:=h
 cases ls with
 |nil=>exact absurd h1 h0
 |cons x ls=>obtain⟨rfl,-,h2⟩:=h1;exact⟨ls,h2,by show topL σ (l::ls)=_;unfold topL;rw[if_neg hw];cases ls<;>rfl⟩
theorem topL_ever:∀ {ls:List Nat},topL σ ls≠0→topL σ ls∈ls∧σ.word (wslot (topL σ ls) 1)=ever
 |[],h=>absurd rfl h
 |l::ls,h=>by
  unfold topL at h ⊢
  split
  · rename_i e;exact⟨List.mem_cons_self,e⟩
  · rename_i e
    rw[if_neg e] at h;have:=topL_ever h;exact⟨List.mem_cons_of_mem _ this.1,this.2⟩
def T0 (t:Txn) (made w:Nat):Prop:=w≤t.begin_∨∃ i,w=txnBit+i∧1≤i∧i≤made∧i≠t.id
def U0 (now made w:Nat):Prop:=w≤now∨∃ i,w=txnBit+i∧1≤i∧i≤made
structure LN (σ:St) (t:Txn):Prop where
 dn:∀ i,1≤i→i≤σ.made→i≠t.id→stO σ i=3∧0<endOf (σ.word (σ.place i))∧endOf (σ.word (σ.place i))≤t.begin_
 bo:t.bonds=[]
 vc:∀ y l,y<64→InC σ y l→(t.cell y=none→T0 t σ.made (σ.word (wslot l 0))∧(σ.word (wslot l 1)=ever∨T0 t σ.made (σ.word (wslot l 1))))∧U0 (timeOf (σ.word 0)) σ.made (σ.word (wslot l 0))∧(σ.word (wslot l 1)=ever∨U0 (timeOf (σ.word 0)) σ.made (σ.word (wslot l 1)))
 po:∀ y x,t.cell y=some x→y<64∧(x.own≠0→InC σ y x.own)∧(x.old≠0→InC σ y x.old)
 rd:∀ r∈t.reads,r.1<64∧(t.cell r.1=none→TopF σ (σ.word (9+r.1)) r.2.1)
 la:t.end_=0→lastOf (σ.word 0)=0
def Same (σ:St) (y x:Nat):Prop:=∃ v,TopF σ x v∧TopF σ (σ.word (9+y)) v
structure HL0 (t:Txn) (h:Hunt):Prop where
 ky:h.key<64
 cn:t.cell h.key=none
 at_:t.begin_≤h.at_
 ju:∀ i l,h.thn=.judge i l→∃ g,(h.key,l,g)∈t.reads
def ido (σ:St) (t:Txn) (i:Nat):Prop:=1≤i∧i≤σ.made∧i≠t.id
def KL (σ:St) (t:Txn) (o:En.Op):K→Prop
 |.fin r=>r.e≠14
 |.start h=>HL0 t h
 |.visit h l=>HL0 t h∧InC σ h.key l∧Same σ h.key l
 |.maker h l i=>HL0 t h∧InC σ h.key l∧Same σ h.key l∧ido σ t i
 |.older h l=>HL0 t h∧l≠0∧InC σ h.key l∧Same σ h.key (σ.word (wslot l 2))
 |.ended h l mb=>HL0 t h∧InC σ h.key l∧Same σ h.key l∧mb=0
 |.ender h l mb i=>HL0 t h∧InC σ h.key l∧mb=0∧ido σ t i∧Same σ h.key (σ.word (wslot l 2))
 |.own l=>InC σ o.key l∧σ.word (wslot l 1)=ever
 |.claim l w=>InC σ o.key l∧σ.word (wslot l 1)=ever∧w=ever
 |.fresh _=>True
 |.next _ _ a|.free _ _ a=>InC σ o.key a
 |.freeTxn _ _ a i=>InC σ o.key a∧ido σ t i
 |.slotB _ _ _=>True
 |.slotE _ l _=>σ.word (wslot l 0)=mine t
 |.push l _|.pushC l _|.over l|.overN l _|.overC l _=>σ.word (wslot l 0)=mine t∧σ.word (wslot l 1)=ever
 |.again e=>(∃ z,t.cell o.key=some z∧z.own≠0)∧(e=mine t∨e=ever)
 |.draw|.turn _ _|.helpJ|.commit=>True
 |.turns l r=>r.over=3∧t.end_≠0∧∀ x∈l,x.new=t.end_∧∃ y z,t.cell y=some z∧((z.own≠0∧(x.at_=wslot z.own 0∨x.at_=wslot z.own 1))∨(z.old≠0∧x.at_=wslot z.old 1))
 |_=>False
theorem T0.rd (h:T0 t σ.made v) (ht:t.begin_≤tm) (hm:σ.made≤2000):((rd v).1=1∧(rd v).2=v∧v≤t.begin_)∨∃ i,rd v=(2,i)∧ido σ t i:=by
 rcases h with h|⟨i,rfl,h1,h2,h3⟩
 · left;rw[rd_time (by omega)];exact⟨rfl,rfl,h⟩
 · right;exact⟨i,rd_txn h1 (by omega),h1,h2,h3⟩
theorem LN.top (hL:LN σ t) (hy:y<64) (h:TopF σ (σ.word (9+y)) v) (h0:v≠0):InC σ y v∧σ.word (wslot v 1)=ever:=by
 obtain⟨ls,h1,rfl⟩:=h;obtain⟨a,b⟩:=topL_ever h0;exact⟨⟨ls,h1,a⟩,b⟩
theorem InC.next (hi:InC σ y l) (h0:σ.word (wslot l 2)≠0):InC σ y (σ.word (wslot l 2)):=by
 obtain⟨ls,h1,h2⟩:=hi;exact⟨ls,h1,h1.next h2 h0⟩
theorem InC.ne (hi:InC σ y l):l≠0:=by
 obtain⟨ls,h1,h2⟩:=hi;obtain⟨pre,post,rfl,-⟩:=h1.split h2;have:∀ (pre:List Nat) (h:Nat),Chain σ h (pre++l::post)→l≠0:=fun pre=>by
  induction pre with
  |nil=>intro h hc;obtain⟨rfl,h3,-⟩:=hc;exact h3
  |cons x pre ih=>intro h hc;obtain⟨-,-,h3⟩:=hc;exact ih _ h3
 exact this pre _ h1
theorem LN.topOf (hL:LN σ t) (hc:CS N σ C O) (hy:y<64):∃ v,TopF σ (σ.word (9+y)) v:=⟨_,C y,hc.ch y hy,rfl⟩
theorem Same.head (hs:Same σ y l) (h0:l≠0) (hw:σ.word (wslot l 1)=ever):TopF σ (σ.word (9+y)) l:=by
 obtain⟨v,h1,h2⟩:=hs;rw[h1.head h0 hw] at h2;exact h2
theorem Same.next (hs:Same σ y l) (h0:l≠0) (hw:σ.word (wslot l 1)≠ever):Same σ y (σ.word (wslot l 2)):=by
 obtain⟨v,h1,h2⟩:=hs;exact⟨v,h1.next h0 hw,h2⟩
theorem Same.zero (hs:Same σ y 0):TopF σ (σ.word (9+y)) 0:=by
 obtain⟨v,h1,h2⟩:=hs;rw[h1.of0] at h2;exact h2
end
section
variable {N L n n1 s q cq d kd i a b:Nat} {σ τ υ σ1 σ2 σ4:St} {t t0 t2 u u2:Txn} {c c2:Cal} {r:Res} {k k':K} {ok:Option K} {o:En.Op} {C:Nat→List Nat} {O:Nat→Nat} {y l v M:Nat} {h:Hunt}
theorem need_is (t:Txn):∀ (k i:Nat),i≤t.reads.length→k=t.reads.length - i→t.need k i=t.reads.length∨(t.need k i<t.reads.length∧t.needs (t.reads.getD (t.need k i) (0,0,false))=true)
 |0,i,hi,hk=>by unfold Txn.need;left;omega
 |k+1,i,hi,hk=>by
  unfold Txn.need
  split
  · exact need_is t k (i+1) (by omega) (by omega)
  · rename_i hx
    right;refine⟨by omega,?_⟩
    cases hn:t.needs (t.reads.getD i (0,0,false)) with
    |true=>rfl
    |false=>exact absurd ⟨by omega,hn⟩ hx
theorem judge_KL (hL:LN σ t) (hbe:t.begin_≤t.end_) (i:Nat) (hi:i≤t.reads.length):KL σ t o (judgeK t i):=by
 unfold judgeK;simp only
 rcases need_is t (t.reads.length - i) i hi rfl with e|⟨e1,e2⟩
 · rw[if_pos e]
   unfold waitK;rw[hL.bo,if_pos (show 0=([]:List Nat).length from rfl)]
   trivial
 · rw[if_neg (by omega)]
   have hg:t.reads.getD (t.need (t.reads.length - i) i) (0,0,false)∈t.reads:=by
    rw[List.getD_eq_getElem?_getD,List.getElem?_eq_getElem e1];exact List.getElem_mem e1
   generalize t.reads.getD (t.need (t.reads.length - i) i) (0,0,false)=r at*;have hcn:t.cell r.1=none:=by
    unfold Txn.needs at e2;simp only[Bool.and_eq_true,Option.isNone_iff_eq_none] at e2;exact e2.1
   refine⟨(hL.rd r hg).1,hcn,hbe,fun i' l' e=>?_⟩;obtain⟨rfl,rfl⟩:=Thn.judge.injEq _ _ _ _ ▸ e;exact⟨r.2.2,hg⟩
theorem scanN_L {t':Txn} {e0:Nat}:∀ (m:Nat) (υ:St) (key:Nat),υ.t s=t'→s<υ.calls.length→(υ.c s).r.e=e0→(υ.c s).op.hi≤63→(υ.c s).op=o→
 ((scanN s m υ key).1.c s).r.e=e0∧(scanN s m υ key).1.t s=t'∧((scanN s m υ key).2=.fin ((scanN s m υ key).1.c s).r∨∃ key',(scanN s m υ key).2=.start ⟨key',t'.begin_,.scan key'⟩∧key'≤63∧t'.cell key'=none)
 |0,υ,key,ht,hl,he,hh,ho=>⟨he,ht,.inl rfl⟩
 |m+1,υ,key,ht,hl,he,hh,ho=>by
  unfold scanN
  split
  · exact⟨he,ht,.inl rfl⟩
  · rename_i hle
    rw[ht]
    cases hc:t'.cell key with
    |none=>exact⟨he,ht,.inr ⟨key,rfl,by omega,hc⟩⟩
    |some x=>
     simp only
     split
     · have e1:((υ.tell s key (υ.valueOf x.own)).c s)={υ.c s with r:={(υ.c s).r with pairs:=(υ.c s).r.pairs++[(key,υ.valueOf x.own)]}}:=by
        unfold St.tell;rw[setC_c _ _ _ hl]
       exact scanN_L m _ (key+1) ht (by show s<(υ.calls.set _ _).length;rw[List.length_set];exact hl) (by rw[e1];exact he) (by rw[e1];exact hh) (by rw[e1];exact ho)
     · exact scanN_L m _ (key+1) ht hl he hh ho
theorem thn_KL (hL:LN σ t) (hbe:t.end_≠0→t.begin_≤t.end_) (ht:υ.t s=t) (hs:s<υ.txns.length) (hc8:s<υ.calls.length) (hok:opOk (υ.c s).op=true) (hre:(υ.c s).r.e=0) (h0:HL0 t h) (hh:HuntOk t (υ.c s) h) (hju:∀ i l,h.thn=.judge i l→t.end_≠0) (hT:TopF σ (σ.word (9+h.key)) l):
 ∃ t',(υ.thn s h l).1.t s=t'∧t'.cells=t.cells∧t'.id=t.id∧t'.begin_=t.begin_∧t'.end_=t.end_∧t'.bonds=t.bonds∧(∀ r∈t'.reads,r∈t.reads∨(r.1=h.key∧r.2.1=l))∧(∀ r∈t.reads,r∈t'.reads)∧((υ.thn s h l).1.c s).r.e=0∧KL σ t' (υ.c s).op (υ.thn s h l).2:=by
 have hrd:∀ g,(υ.read s h.key l g).t s={t with reads:=t.reads++[(h.key,l,g)]}:=fun g=>by rw[read_t _ _ _ _ _ hs,ht]
 have R:∀ (t':Txn) g,t'={t with reads:=t.reads++[(h.key,l,g)]}→t'.cells=t.cells∧t'.id=t.id∧t'.begin_=t.begin_∧t'.end_=t.end_∧t'.bonds=t.bonds∧(∀ r∈t'.reads,r∈t.reads∨(r.1=h.key∧r.2.1=l))∧(∀ r∈t.reads,r∈t'.reads):=fun t' g e=>by
  subst e;refine⟨rfl,rfl,rfl,rfl,rfl,fun r hr=>?_,fun r hr=>List.mem_append_left _ hr⟩
  rcases List.mem_append.1 hr with hr|hr
  · exact .inl hr
  · rw[List.mem_singleton] at hr;rw[hr];exact .inr ⟨rfl,rfl⟩
 have S:(∀ r∈t.reads,r∈t.reads∨(r.1=h.key∧r.2.1=l)):=fun r hr=>.inl hr
 unfold St.thn
 split
 · rename_i e
   obtain⟨r1,r2,r3,r4,r5,r6,r7⟩:=R _ _ rfl;simp only
   split
   · exact⟨_,hrd _,r1,r2,r3,r4,r5,r6,r7,hre,by show (11:Nat)≠14;omega⟩
   · exact⟨_,hrd _,r1,r2,r3,r4,r5,r6,r7,hre,by show (0:Nat)≠14;omega⟩
 · rename_i key e
   have hhk:=hh.2;rw[e] at hhk;obtain⟨k1,k2,-⟩:=hhk;obtain⟨r1,r2,r3,r4,r5,r6,r7⟩:=R {t with reads:=t.reads++[(h.key,l,false)]} false rfl;have hυt:((if l=0 then υ.read s key l false else (υ.read s key l false).tell s key ((υ.read s key l false).valueOf l))).t s={t with reads:=t.reads++[(h.key,l,false)]}:=by
    rw[k1]
    split
    · exact hrd _
    · exact hrd _
   have hυc:((if l=0 then υ.read s key l false else (υ.read s key l false).tell s key ((υ.read s key l false).valueOf l)).c s).r.e=0∧((if l=0 then υ.read s key l false else (υ.read s key l false).tell s key ((υ.read s key l false).valueOf l)).c s).op=(υ.c s).op:=by
    split
    · exact⟨hre,rfl⟩
    · unfold St.tell
      rw[setC_c _ _ _ (by exact hc8)];exact⟨hre,rfl⟩
   have hυl:s<((if l=0 then υ.read s key l false else (υ.read s key l false).tell s key ((υ.read s key l false).valueOf l))).calls.length:=by
    split
    · exact hc8
    · show s<(υ.calls.set _ _).length;rw[List.length_set];exact hc8
   simp only;generalize (if l=0 then υ.read s key l false else (υ.read s key l false).tell s key ((υ.read s key l false).valueOf l))=υ' at hυt hυc hυl ⊢;have main:=scanN_L (s:=s) (o:=(υ.c s).op) ((υ'.c s).op.hi+1 - (key+1)) υ' (key+1) hυt hυl hυc.1 (by rw[hυc.2];exact k2) hυc.2;obtain⟨m1,m2,m3⟩:=main;refine⟨_,m2,r1,r2,r3,r4,r5,r6,r7,m1,?_⟩;unfold St.scan
   rcases m3 with e3|⟨key',e3,e4,e5⟩
   · rw[e3];show ((scanN s _ υ' _).1.c s).r.e≠14;rw[m1];omega
   · rw[e3]
     exact⟨by show key'<64;omega,e5,Nat.le_refl _,fun i' l' e=>by cases e⟩
 · rename_i e
   have hhk:=hh.2;rw[e] at hhk;obtain⟨k1,k2⟩:=hhk;simp only
   split
   · obtain⟨r1,r2,r3,r4,r5,r6,r7⟩:=R _ _ rfl
     rw[k1];exact⟨_,hrd _,r1,r2,r3,r4,r5,r6,r7,hre,by show (12:Nat)≠14;omega⟩
   · split
     · obtain⟨r1,r2,r3,r4,r5,r6,r7⟩:=R _ _ rfl
       rw[k1];exact⟨_,hrd _,r1,r2,r3,r4,r5,r6,r7,hre,by show (11:Nat)≠14;omega⟩
     · split
       · exact⟨_,ht,rfl,rfl,rfl,rfl,rfl,S,fun r hr=>hr,hre,trivial⟩
       · rename_i hx
         refine⟨_,ht,rfl,rfl,rfl,rfl,rfl,S,fun r hr=>hr,hre,?_⟩;have:=hL.top h0.ky hT hx;rw[←k1] at this;exact this
 · rename_i i l0 e
   obtain⟨g,hg⟩:=h0.ju i l0 e;have:=(hL.rd _ hg).2 h0.cn;have hll:l=l0:=hT.uniq this;have hhk:=hh.2;rw[e] at hhk;rw[if_neg (by simp[hll])];refine⟨_,ht,rfl,rfl,rfl,rfl,rfl,S,fun r hr=>hr,hre,?_⟩;show KL σ t _ (judgeK (υ.t s) (i+1));rw[ht];exact judge_KL hL (hbe (hju i l0 e)) (i+1) (by have:i<t.reads.length:=hhk;omega)
end
section
variable {N L n n1 s q cq d kd i a b:Nat} {σ τ υ σ1 σ2 σ4:St} {t t0 t2 u u2:Txn} {c c2:Cal} {r:Res} {k k':K} {ok:Option K} {o:En.Op} {C:Nat→List Nat} {O:Nat→Nat} {y l v M:Nat} {h:Hunt}
theorem Stp.inC1 (p:Stp N L n s σ σ1 kd r t c k σ2 ok t2 c2) (hw:WF N L n σ) (hc:CS N σ C O) (hv:Pv N σ O s c.seq k) (hs:s<8) (hy:y<64) (h:InC σ1 y l):InC σ y l∨(privOf k=l∧y=c.op.key∧(k=.pushC l (σ.word (9+y))∨k=.overC l (σ.word (9+y)))):=by
 obtain⟨ls,h1,h2⟩:=h
 rcases p.chains hw hc hv hs hy with g|⟨link,g1,g2,g3,g4⟩
 · rw[Chain.uniq h1 g] at h2
   exact .inl ((hc.inC hy).2 h2)
 · rw[Chain.uniq h1 g4] at h2
   rcases List.mem_cons.1 h2 with rfl|h2
   · rcases g1 with rfl|rfl
     · exact .inr ⟨rfl,g2,.inl rfl⟩
     · exact .inr ⟨rfl,g2,.inr rfl⟩
   · exact .inl ((hc.inC hy).2 h2)
theorem Stp.inC2 (p:Stp N L n s σ σ1 kd r t c k σ2 ok t2 c2) (hw:WF N L n σ) (hc:CS N σ C O) (hv:Pv N σ O s c.seq k) (hs:s<8) (hy:y<64) (h:InC σ y l):InC σ1 y l:=by
 have h2:=(hc.inC hy).1 h
 rcases p.chains hw hc hv hs hy with g|⟨link,g1,g2,g3,g4⟩
 · exact⟨_,g,h2⟩
 · exact⟨_,g4,List.mem_cons_of_mem _ h2⟩
theorem Stp.top1 (p:Stp N L n s σ σ1 kd r t c k σ2 ok t2 c2) (hw:WF N L n σ) (hc:CS N σ C O) (hv:Pv N σ O s c.seq k) (hs:s<8) (hy:y<64) (hk:∀ l,y=c.op.key→k≠.pushC l (σ.word (9+y))∧k≠.overC l (σ.word (9+y))) (hw1:∀ l,InC σ y l→σ1.word (wslot l 1)=σ.word (wslot l 1)) (h:TopF σ (σ.word (9+y)) v):TopF σ1 (σ1.word (9+y)) v:=by
 obtain⟨ls,h1,rfl⟩:=h;have hls:ls=C y:=Chain.uniq h1 (hc.ch y hy)
 rcases p.chains hw hc hv hs hy with g|⟨link,g1,g2,-⟩
 · refine⟨C y,g,?_⟩
   rw[hls];have:∀ xs:List Nat,(∀ x∈xs,σ1.word (wslot x 1)=σ.word (wslot x 1))→topL σ xs=topL σ1 xs:=fun xs=>by
    induction xs with
    |nil=>intro _;rfl
    |cons x xs ih=>intro hx;unfold topL;rw[hx x List.mem_cons_self,ih (fun z hz=>hx z (List.mem_cons_of_mem _ hz))]
   exact this _ (fun x hx=>hw1 x ((hc.inC hy).2 hx))
 · rcases g1 with g1|g1
   · exact absurd g1 (hk _ g2).1
   · exact absurd g1 (hk _ g2).2
theorem LN.next (hL:LN σ t) (hi:TI σ) (hw:WF N L n σ) (hc:CS N σ C O) (hpv:Pv N σ O s c.seq k) (hs:s<8) (p:Stp N L n s σ σ1 kd r t c k σ2 ok t2 c2)
 (bo:t2.bonds=t.bonds) (cn:∀ y,t2.cell y=none→t.cell y=none) (kp:∀ y,t2.cell y=none→y=c.op.key→∀ l,k≠.pushC l (σ.word (9+y))∧k≠.overC l (σ.word (9+y)))
 (w1:∀ y l,y<64→InC σ y l→t2.cell y=none→σ1.word (wslot l 0)=σ.word (wslot l 0)∧σ1.word (wslot l 1)=σ.word (wslot l 1))
 (w2:∀ y l,y<64→InC σ1 y l→t2.cell y≠none→U0 (timeOf (σ1.word 0)) σ1.made (σ1.word (wslot l 0))∧(σ1.word (wslot l 1)=ever∨U0 (timeOf (σ1.word 0)) σ1.made (σ1.word (wslot l 1))))
 (po:∀ y x,t2.cell y=some x→y<64∧(x.own≠0→InC σ1 y x.own)∧(x.old≠0→InC σ1 y x.old))
 (rd:∀ r∈t2.reads,r∈t.reads∨(r.1<64∧TopF σ (σ.word (9+r.1)) r.2.1))
 (dn:∀ i,1≤i→i≤σ1.made→i≠t.id→σ1.word (σ1.place i)=σ.word (σ.place i))
 (la:t2.end_=0→lastOf (σ1.word 0)=0) (tm:timeOf (σ.word 0)≤timeOf (σ1.word 0)):LN σ1 t2:=by
 obtain⟨-,-,hid,hbg⟩:=hi.stepP hw p;have hmd:=p.made;refine⟨fun i h1 h2 h3=>?_,by rw[bo];exact hL.bo,fun y l hy hl=>?_,po,fun r hr=>?_,la⟩
 · rw[hid] at h3
   have e:=dn i h1 h2 h3;obtain⟨a,b,c⟩:=hL.dn i h1 (by rw[←hmd];exact h2) h3;unfold stO at a ⊢;rw[e,hbg];exact⟨a,b,c⟩
 · by_cases hcn:t2.cell y=none
   · have hl':InC σ y l:=by
      rcases p.inC1 hw hc hpv hs hy hl with g|⟨-,g2,g3⟩
      · exact g
      · have:=kp y hcn g2 l
        rcases g3 with g3|g3
        · exact absurd g3 this.1
        · exact absurd g3 this.2
     obtain⟨e0,e1⟩:=w1 y l hy hl' hcn;obtain⟨v1,v2,v3⟩:=hL.vc y l hy hl';have T:∀ w,T0 t σ.made w→T0 t2 σ1.made w:=fun w h=>by
      unfold T0 at h ⊢;rw[hmd,hid,hbg];exact h
     have U:∀ w,U0 (timeOf (σ.word 0)) σ.made w→U0 (timeOf (σ1.word 0)) σ1.made w:=fun w h=>by
      unfold U0 at h ⊢;rw[hmd];exact h.imp (fun x=>by omega) (fun x=>x)
     rw[e0,e1];exact⟨fun _=>⟨T _ (v1 (cn y hcn)).1,(v1 (cn y hcn)).2.imp (fun x=>x) (T _)⟩,U _ v2,v3.imp (fun x=>x) (U _)⟩
   · exact⟨fun h=>absurd h hcn,w2 y l hy hl hcn⟩
 · have key:r.1<64→t2.cell r.1=none→TopF σ (σ.word (9+r.1)) r.2.1→TopF σ1 (σ1.word (9+r.1)) r.2.1:=fun h1 h2 h3=>
    p.top1 hw hc hpv hs h1 (fun l e=>kp r.1 h2 e l) (fun l hl=>(w1 r.1 l h1 hl h2).2) h3
   rcases rd r hr with g|⟨g1,g2⟩
   · obtain⟨a,b⟩:=hL.rd r g
     exact⟨a,fun h=>key a h (b (cn _ h))⟩
   · exact⟨g1,fun h=>key g1 h g2⟩
theorem KL.cong (hwd:∀ i,σ1.word i=σ.word i) (hmd:σ1.made=σ.made) (h:KL σ t o k):KL σ1 t o k:=by
 have hch:∀ (ls:List Nat) (h:Nat),Chain σ h ls→Chain σ1 h ls:=fun ls h hc=>hc.cong (fun l _=>hwd _)
 have hin:∀ {y l},InC σ y l→InC σ1 y l:=fun {y l} ⟨ls,a,b⟩=>⟨ls,by rw[hwd];exact hch _ _ a,b⟩
 have htl:∀ ls,topL σ1 ls=topL σ ls:=fun ls=>by
  induction ls with
  |nil=>rfl
  |cons x ls ih=>unfold topL;rw[hwd,ih]
 have htp:∀ {x v},TopF σ x v→TopF σ1 x v:=fun {x v} ⟨ls,a,b⟩=>⟨ls,hch _ _ a,by rw[htl];exact b⟩
 have hsm:∀ {y x},Same σ y x→Same σ1 y x:=fun {y x} ⟨v,a,b⟩=>⟨v,htp a,by rw[hwd];exact htp b⟩
 have hio:∀ {i},ido σ t i→ido σ1 t i:=fun {i} h=>by unfold ido at h ⊢;rw[hmd];exact h
 cases k with
 |visit h l=>exact⟨h.1,hin h.2.1,hsm h.2.2⟩
 |maker h l i=>exact⟨h.1,hin h.2.1,hsm h.2.2.1,hio h.2.2.2⟩
 |older h l=>exact⟨h.1,h.2.1,hin h.2.2.1,by rw[hwd];exact hsm h.2.2.2⟩
 |ended h l mb=>exact⟨h.1,hin h.2.1,hsm h.2.2.1,h.2.2.2⟩
 |ender h l mb i=>exact⟨h.1,hin h.2.1,h.2.2.1,hio h.2.2.2.1,by rw[hwd];exact hsm h.2.2.2.2⟩
 |own l=>exact⟨hin h.1,by rw[hwd];exact h.2⟩
 |claim l w=>exact⟨hin h.1,by rw[hwd];exact h.2.1,h.2.2⟩
 |next l hd a=>exact hin h
 |free l hd a=>exact hin h
 |freeTxn l hd a i=>exact⟨hin h.1,hio h.2⟩
 |slotE x l hd=>show σ1.word _=_;rw[hwd];exact h
 |push l hd=>exact⟨by rw[hwd];exact h.1,by rw[hwd];exact h.2⟩
 |pushC l hd=>exact⟨by rw[hwd];exact h.1,by rw[hwd];exact h.2⟩
 |over l=>exact⟨by rw[hwd];exact h.1,by rw[hwd];exact h.2⟩
 |overN l hd=>exact⟨by rw[hwd];exact h.1,by rw[hwd];exact h.2⟩
 |overC l hd=>exact⟨by rw[hwd];exact h.1,by rw[hwd];exact h.2⟩
 |_=>exact h
theorem LN.stay (hL:LN σ t) (hi:TI σ) (hw:WF N L n σ) (hc:CS N σ C O) (hpv:Pv N σ O s c.seq k) (hs:s<8) (p:Stp N L n s σ σ1 kd r t c k σ2 ok t2 c2) (hwr:wr (σ.setC s {c with waits:=false}) s k=Option.none)
 (hce:t2.cells=t.cells) (bo:t2.bonds=t.bonds) (he:t2.end_=t.end_) (hk:∀ l,k≠.pushC l (σ.word (9+c.op.key))∧k≠.overC l (σ.word (9+c.op.key))) (rd:∀ r∈t2.reads,r∈t.reads∨(r.1<64∧TopF σ (σ.word (9+r.1)) r.2.1)):LN σ1 t2:=by
 have hwd:=p.none_w hwr;have hcell:∀ y,t2.cell y=t.cell y:=fun y=>by unfold Txn.cell;rw[hce]
 have hpl:=p.pl;refine hL.next hi hw hc hpv hs p bo (fun y h=>by rw[←hcell];exact h) (fun y _ e l=>by rw[e];exact hk l) (fun y l _ _ _=>⟨hwd _,hwd _⟩) (fun y l hy hl hcn=>?_) (fun y x hx=>?_) rd (fun i _ _ _=>by rw[hpl,hwd]) (fun h=>by rw[hwd];exact hL.la (by rw[←he];exact h)) (by rw[hwd];exact Nat.le_refl _)
 · have hl':InC σ y l:=by
    rcases p.inC1 hw hc hpv hs hy hl with g|⟨-,g2,g3⟩
    · exact g
    · rw[g2] at g3
      rcases g3 with g3|g3
      · exact absurd g3 (hk l).1
      · exact absurd g3 (hk l).2
   rw[hwd,hwd,hwd,p.made];exact (hL.vc y l hy hl').2
 · rw[hcell] at hx
   obtain⟨a,b,c⟩:=hL.po y x hx;exact⟨a,fun h=>p.inC2 hw hc hpv hs a (b h),fun h=>p.inC2 hw hc hpv hs a (c h)⟩
end
section
variable {N L n n1 s q cq d kd i j a b:Nat} {σ τ υ σ1 σ2 σ4:St} {t t0 t2 u u2:Txn} {c c2:Cal} {r:Res} {k k':K} {ok:Option K} {o:En.Op} {C:Nat→List Nat} {O:Nat→Nat} {y l v w M:Nat} {h:Hunt}
theorem LN.put (hL:LN σ t) (hi:TI σ) (hw:WF N L n σ) (hc:CS N σ C O) (hpv:Pv N σ O s c.seq k) (hs:s<8) (p:Stp N L n s σ σ1 kd r t c k σ2 ok t2 c2) (hwr:wr (σ.setC s {c with waits:=false}) s k=some (j,w))
 (hj:∀ y l,y<64→InC σ y l→j≠wslot l 0∧j≠wslot l 1) (hp:∀ i,1≤i→i≤σ.made→i≠t.id→j≠σ.place i)
 (hce:t2.cells=t.cells) (bo:t2.bonds=t.bonds) (hk:∀ l,k≠.pushC l (σ.word (9+c.op.key))∧k≠.overC l (σ.word (9+c.op.key))) (rd:t2.reads=t.reads) (la:t2.end_=0→lastOf (σ1.word 0)=0) (tm:timeOf (σ.word 0)≤timeOf (σ1.word 0)):LN σ1 t2:=by
 have hwd:=fun i=>(p.some_w hwr i).1
 have hcell:∀ y,t2.cell y=t.cell y:=fun y=>by unfold Txn.cell;rw[hce]
 have hpl:=p.pl;refine hL.next hi hw hc hpv hs p bo (fun y h=>by rw[←hcell];exact h) (fun y _ e l=>by rw[e];exact hk l) (fun y l hy hl _=>⟨hwd _ (fun e=>(hj y l hy hl).1 e.symm),hwd _ (fun e=>(hj y l hy hl).2 e.symm)⟩) (fun y l hy hl hcn=>?_) (fun y x hx=>?_) (fun r hr=>.inl (by rw[←rd];exact hr)) (fun i h1 h2 h3=>by rw[hpl];exact hwd _ (fun e=>hp i h1 (by rw[←p.made];exact h2) h3 e.symm)) la tm
 · have hl':InC σ y l:=by
    rcases p.inC1 hw hc hpv hs hy hl with g|⟨-,g2,g3⟩
    · exact g
    · rw[g2] at g3
      rcases g3 with g3|g3
      · exact absurd g3 (hk l).1
      · exact absurd g3 (hk l).2
   have U:∀ w,U0 (timeOf (σ.word 0)) σ.made w→U0 (timeOf (σ1.word 0)) σ1.made w:=fun w h=>by
    unfold U0 at h ⊢;rw[p.made];exact h.imp (fun x=>by omega) (fun x=>x)
   rw[hwd _ (fun e=>(hj y l hy hl').1 e.symm),hwd _ (fun e=>(hj y l hy hl').2 e.symm)];obtain⟨-,v2,v3⟩:=hL.vc y l hy hl';exact⟨U _ v2,v3.imp (fun x=>x) (U _)⟩
 · rw[hcell] at hx
   obtain⟨a,b,c⟩:=hL.po y x hx;exact⟨a,fun h=>p.inC2 hw hc hpv hs a (b h),fun h=>p.inC2 hw hc hpv hs a (c h)⟩
theorem wslotI (h:wslot l i=wslot v j) (hi:i<3) (hj:j<3):slotOf l=slotOf v∧i=j:=by unfold wslot at h;omega
theorem priv_far (hw:WF N L n σ) (hc:CS N σ C O) (hpv:Pv N σ O s q k) (h0:privOf k≠0) (hi:i<3):∀ y l,y<64→InC σ y l→wslot (privOf k) i≠wslot l 0∧wslot (privOf k) i≠wslot l 1:=fun y l hy hl=>by
 have h1:=hpv.priv h0;have h2:=(hc.lo y hy l ((hc.inC hy).1 hl)).2;constructor
 · intro e
   have:=(wslotI e hi (by omega)).1;rw[this] at h1;omega
 · intro e
   have:=(wslotI e hi (by omega)).1;rw[this] at h1;omega
def Room (σ:St):Prop:=σ.list.free≠[]
theorem slot_room (h1:υ.free=σ.free) (h2:υ.listed=σ.listed) (h3:υ.slots=σ.slots) (hr:Room σ) (x:Bool) (hd:Nat):∃ l',(υ.slot s x 0 hd).2=.slotB x l' hd:=by
 have hf:υ.list.free=σ.list.free:=by unfold St.list;rw[h2];split;exact h1;simp[h1,h3]
 unfold St.slot;simp only[if_true];unfold St.take;simp only;unfold Room at hr;rw[←hf] at hr
 cases e:υ.list.free.getLast? with
 |none=>rw[List.getLast?_eq_none_iff] at e;exact absurd e hr
 |some i=>exact⟨_,rfl⟩
theorem slot_have (hl:l≠0) (x:Bool) (hd:Nat):(υ.slot s x l hd).2=.slotB x l hd:=by
 unfold St.slot;simp only[if_neg hl]
theorem slot_c (υ:St) (s:Nat) (x:Bool) (l hd:Nat):((υ.slot s x l hd).1.c s)=υ.c s:=by
 unfold St.c;rw[(slot_calls (σ:=υ) (s:=s) x l hd).1]
theorem LN.quiet (hL:LN σ t) (hk:KL σ t c.op k) (hre:c.r.e=0) (hi:TI σ) (hw:WF N L n σ) (hc:CS N σ C O) (hpv:Pv N σ O s c.seq k) (hs:s<8) (p:Stp N L n s σ σ1 kd r t c k σ2 ok t2 c2) (hrm:privOf k=0→Room σ) (hlim:timeOf (σ.word 0)<σ.limit)
 (hkk:(∃ h,huntOf k=some h)∨(∃ l,k=.own l)∨(∃ l,k=.fresh l)∨(∃ l hd a,k=.next l hd a)∨(∃ l hd a,k=.free l hd a)∨(∃ l hd a i,k=.freeTxn l hd a i)∨(∃ l,k=.over l)∨k=.draw):
 ∃ k',ok=some k'∧LN σ1 t2∧KL σ1 t2 c2.op k'∧c2.r.e=0:=by
 have hwr:wr (σ.setC s {c with waits:=false}) s k=none:=by
  rcases hkk with ⟨h,e⟩|⟨_,rfl⟩|⟨_,rfl⟩|⟨_,_,_,rfl⟩|⟨_,_,_,rfl⟩|⟨_,_,_,_,rfl⟩|⟨_,rfl⟩|rfl
  · cases k<;>first|rfl|(cases e)
  all_goals rfl
 have hnp:∀ l,k≠.pushC l (σ.word (9+c.op.key))∧k≠.overC l (σ.word (9+c.op.key)):=fun l=>by
  rcases hkk with ⟨h,e⟩|⟨_,rfl⟩|⟨_,rfl⟩|⟨_,_,_,rfl⟩|⟨_,_,_,rfl⟩|⟨_,_,_,_,rfl⟩|⟨_,rfl⟩|rfl
  · refine⟨?_,?_⟩<;>(rintro rfl;cases e)
  all_goals (refine⟨?_,?_⟩<;>(intro e;cases e))
 have et:(σ.setC s {c with waits:=false}).tick.t s=t:=p.m.et;have et0:(σ.setC s {c with waits:=false}).t s=t:=p.m.et;have ec:(σ.setC s {c with waits:=false}).tick.c s={c with waits:=false}:=p.m.ec;have ec0:(σ.setC s {c with waits:=false}).c s={c with waits:=false}:=p.m.ec;have hs8:s<(σ.setC s {c with waits:=false}).tick.txns.length:=by show s<σ.txns.length;rw[hw.sh.t8];exact hs
 have hc8:s<(σ.setC s {c with waits:=false}).tick.calls.length:=by show s<(σ.calls.set _ _).length;rw[List.length_set,hw.sh.c8];exact hs
 have hwd:=p.none_w hwr;have hmd:=p.made;have hcop:=p.cop;have hc2:σ2.c s=c2:=by obtain⟨d,m2⟩:=p.m2;exact m2.ec
 have ht2:=p.t2s;have hbg:=hi.bg s t p.tx;have hmm:σ.made≤2000:=hw.sh.md;have hl1:=hw.sh.l1;have hck:=((hw.sh.wd 0).ck rfl).1;have htm:t.begin_≤tm:=by unfold tm;omega
 have hbe:t.end_≠0→t.begin_≤t.end_:=fun h0=>by have:=hbg.2.2.2 h0;omega
 have e:=p.run;have fin:∀ {k'},ok=some k'→t2.cells=t.cells→t2.bonds=t.bonds→t2.end_=t.end_→(∀ r∈t2.reads,r∈t.reads∨(r.1<64∧TopF σ (σ.word (9+r.1)) r.2.1))→c2.r.e=0→KL σ t2 c.op k'→∃ k',ok=some k'∧LN σ1 t2∧KL σ1 t2 c2.op k'∧c2.r.e=0:=fun hok h1 h2 h3 h4 h5 h6=>
  ⟨_,hok,hL.stay hi hw hc hpv hs p hwr h1 h2 h3 hnp h4,by rw[hcop];exact h6.cong hwd hmd,h5⟩
 have one:∀ {υ:St} {k':K},(υ,some k')=(σ2,ok)→υ.t s=t→(υ.c s).r.e=0→KL σ t c.op k'→∃ k',ok=some k'∧LN σ1 t2∧KL σ1 t2 c2.op k'∧c2.r.e=0:=fun {υ k'} e h1 h2 h3=>by
  obtain⟨rfl,e2⟩:=Prod.mk.injEq _ _ _ _ ▸ e;have e3:t2=t:=ht2.symm.trans h1;exact fin e2.symm (by rw[e3]) (by rw[e3]) (by rw[e3]) (fun r hr=>.inl (by rw[←e3];exact hr)) (by rw[←hc2];exact h2) (by rw[e3];exact h3)
 have hju:∀ {h},huntOf k=some h→∀ i l,h.thn=.judge i l→t.end_≠0:=fun {h} hh i l e=>by
  have hkt:(∃ l r,k=.turns l r)∨KT (Bnd σ t) (CkOk σ) t k:=hi.kk s t k p.tx p.kof;have hHT:HT t h:=by
   rcases hkt with ⟨_,_,rfl⟩|hkt
   · cases hh
   · cases k<;>first|(obtain rfl:=Option.some.inj hh;first|exact hkt|exact hkt.1)|(cases hh)
  unfold HT at hHT;rw[e] at hHT;exact hHT.2
 have hko:=p.kok;have hdn:=hL.dn;have hpl0:∀ i,(σ.setC s {c with waits:=false}).place i=σ.place i:=fun _=>rfl
 have hw0:∀ i,(σ.setC s {c with waits:=false}).word i=σ.word i:=fun _=>rfl
 have thn:∀ {h:Hunt} {l:Nat},huntOf k=some h→HuntOk t {c with waits:=false} h→HL0 t h→TopF σ (σ.word (9+h.key)) l→(((σ.setC s {c with waits:=false}).tick.thn s h l).1,some ((σ.setC s {c with waits:=false}).tick.thn s h l).2)=(σ2,ok)→∃ k',ok=some k'∧LN σ1 t2∧KL σ1 t2 c2.op k'∧c2.r.e=0:=fun {h l} hh hho h0 hT e=>by
  obtain⟨e1,e2⟩:=Prod.mk.injEq _ _ _ _ ▸ e;have hM:=thn_KL (υ:=(σ.setC s {c with waits:=false}).tick) hL hbe et hs8 hc8 (by rw[ec];exact p.m.op) (by rw[ec];exact hre) h0 (by rw[ec];exact hho) (fun i l e=>hju hh i l e) hT;obtain⟨t',m1,m2,m3,m4,m5,m6,m7,m8,m9,m10⟩:=hM;rw[e1,ht2] at m1;subst m1;rw[e1,hc2] at m9;refine fin e2.symm m2 m6 m5 (fun r hr=>?_) m9 (by rw[ec] at m10;exact m10)
  rcases m7 r hr with g|⟨g1,g2⟩
  · exact .inl g
  · exact .inr ⟨by rw[g1];exact h0.ky,by rw[g1,g2];exact hT⟩
 have visit:∀ {h:Hunt} {w:Nat},huntOf k=some h→HuntOk t {c with waits:=false} h→HL0 t h→Same σ h.key w→(w≠0→InC σ h.key w)→(((σ.setC s {c with waits:=false}).tick.visit s h w).1,some ((σ.setC s {c with waits:=false}).tick.visit s h w).2)=(σ2,ok)→∃ k',ok=some k'∧LN σ1 t2∧KL σ1 t2 c2.op k'∧c2.r.e=0:=fun {h w} hh hho h0 hS hin e=>by
  unfold St.visit at e
  by_cases hw0:w=0
  · rw[if_pos hw0] at e
    rw[hw0] at hS;exact thn hh hho h0 hS.zero e
  · rw[if_neg hw0] at e
    exact one e et (by rw[ec];exact hre) ⟨h0,hin hw0,hS⟩
 have freeK:∀ {l hd w:Nat},(((σ.setC s {c with waits:=false}).tick.freeK s l hd w).1,some ((σ.setC s {c with waits:=false}).tick.freeK s l hd w).2)=(σ2,ok)→(w≠0→InC σ c.op.key w)→privOf k=l→∃ k',ok=some k'∧LN σ1 t2∧KL σ1 t2 c2.op k'∧c2.r.e=0:=fun {l hd w} e hin hpl=>by
  unfold St.freeK at e
  by_cases h0:w=0
  · rw[if_pos h0] at e
    have hsb:∃ l',((σ.setC s {c with waits:=false}).tick.slot s false l hd).2=.slotB false l' hd:=by
     by_cases hl:l=0
     · subst hl
       exact slot_room (υ:=(σ.setC s {c with waits:=false}).tick) (σ:=σ) rfl rfl rfl (hrm hpl) false hd
     · exact⟨l,slot_have hl _ _⟩
    obtain⟨l',hsb⟩:=hsb;obtain⟨e1,e2⟩:=Prod.mk.injEq _ _ _ _ ▸ e;rw[hsb] at e2;have e':(((σ.setC s {c with waits:=false}).tick.slot s false l hd).1,some (K.slotB false l' hd))=(σ2,ok):=by rw[←e1,←e2]
    refine one e' ?_ (by rw[slot_c,ec];exact hre) trivial;rw[t_of_txns (slot_tx _ _ _ _ _)];exact et
  · rw[if_neg h0] at e
    exact one e et (by rw[ec];exact hre) (hin h0)
 cases k with
 |start h=>
  simp only[St.run] at e;obtain⟨v,hv⟩:=hL.topOf hc hk.ky;refine visit rfl hko hk (w:=σ.word (9+h.key)) ⟨v,hv,hv⟩ (fun h0=>?_) e;exact⟨_,hc.ch _ hk.ky,(hc.ch _ hk.ky).first h0⟩
 |older h l=>
  simp only[St.run] at e;exact visit rfl hko.1 hk.1 (w:=σ.word (wslot l 2)) hk.2.2.2 (fun h0=>hk.2.2.1.next h0) e
 |visit h l=>
  simp only[St.run] at e;obtain⟨h0,hin,hS⟩:=hk;refine one e et (by rw[ec];exact hre) ?_;have hT:=((hL.vc h.key l h0.ky hin).1 h0.cn).1;unfold St.beginK;rw[hw0]
  rcases hT.rd htm hmm with ⟨r1,r2,r3⟩|⟨i,r1,r2⟩
  · rw[if_pos ⟨r1,by rw[r2];have:=h0.at_;omega⟩]
    exact⟨h0,hin,hS,rfl⟩
  · rw[if_neg (by rw[r1];simp),if_neg (by rw[r1,et0];simp;exact r2.2.2),r1]
    exact⟨h0,hin,hS,r2⟩
 |maker h l i=>
  simp only[St.run] at e;obtain⟨h0,hin,hS,hio⟩:=hk;obtain⟨d1,d2,d3⟩:=hdn i hio.1 hio.2.1 hio.2.2;have:=h0.at_;unfold stO at d1;rw[hw0,hpl0,if_neg (by omega),if_neg (by omega)] at e;exact one e et (by rw[ec];exact hre) ⟨h0,hin,hS,rfl⟩
 |ended h l mb=>
  simp only[St.run] at e;obtain⟨h0,hin,hS,rfl⟩:=hk;have:=h0.at_;have hne:=hin.ne;rw[hw0] at e
  rcases ((hL.vc h.key l h0.ky hin).1 h0.cn).2 with hT|hT
  · rw[hT,rd_ever,if_neg (by simp),if_pos (by simp)] at e
    unfold St.seen at e;rw[if_pos rfl] at e;exact thn rfl hko.1 h0 (hS.head hne hT) e
  · have hev:σ.word (wslot l 1)≠ever:=fun x=>by
     rw[x] at hT
     rcases hT.rd htm hmm with ⟨r1,-,-⟩|⟨i,r1,-⟩<;>(rw[rd_ever] at r1;simp at r1)
    rcases hT.rd htm hmm with ⟨r1,r2,r3⟩|⟨i,r1,r2⟩
    · rw[if_pos ⟨r1,by rw[r2];omega⟩] at e
      exact one e et (by rw[ec];exact hre) ⟨h0,hne,hin,hS.next hne hev⟩
    · rw[if_neg (by rw[r1];simp),if_neg (by rw[r1,et];simp;exact r2.2.2),r1] at e
      exact one e et (by rw[ec];exact hre) ⟨h0,hin,rfl,r2,hS.next hne hev⟩
 |ender h l mb i=>
  simp only[St.run] at e;obtain⟨h0,hin,rfl,hio,hS⟩:=hk;obtain⟨d1,d2,d3⟩:=hdn i hio.1 hio.2.1 hio.2.2;have:=h0.at_;unfold stO at d1;rw[hw0,hpl0,if_neg (by omega),if_neg (by omega)] at e;exact one e et (by rw[ec];exact hre) ⟨h0,hin.ne,hin,hS⟩
 |seen h l mb=>exact hk.elim
 |own l=>
  simp only[St.run] at e;rw[hw0,hk.2,rd_ever,if_pos rfl] at e;exact one e et (by rw[ec];exact hre) ⟨hk.1,hk.2,rfl⟩
 |over l=>
  simp only[St.run] at e;exact one e et (by rw[ec];exact hre) hk
 |draw=>
  simp only[St.run] at e;have h0:t.end_=0:=(hi.kk s t _ p.tx p.kof).resolve_left (fun ⟨_,_,e⟩=>by cases e);rw[hw0,if_neg (by show ¬ σ.limit≤_;omega),if_pos (hL.la h0)] at e;exact one e et (by rw[ec];exact hre) trivial
 |fresh l=>
  simp only[St.run] at e;rw[hw0,ec0] at e;exact freeK e (fun h0=>⟨_,hc.ch _ hko.2.2,(hc.ch _ hko.2.2).first h0⟩) rfl
 |next l hd a=>
  simp only[St.run] at e;rw[hw0] at e;exact freeK e (fun h0=>InC.next hk h0) rfl
 |free l hd a=>
  simp only[St.run] at e;rw[hw0,et] at e;have hT:=((hL.vc _ a hko.2.2.2.2 hk).1 hko.2.2.2.1).1
  rcases hT.rd htm hmm with ⟨r1,r2,r3⟩|⟨i,r1,r2⟩
  · rw[if_pos ⟨r1,by rw[r2];exact r3⟩] at e
    exact one e et (by rw[ec];exact hre) hk
  · rw[if_neg (by rw[r1];simp),if_neg (by rw[r1];simp),r1] at e
    exact one e et (by rw[ec];exact hre) ⟨hk,r2⟩
 |freeTxn l hd a i=>
  simp only[St.run] at e;obtain⟨hin,hio⟩:=hk;obtain⟨d1,d2,d3⟩:=hdn i hio.1 hio.2.1 hio.2.2;rw[hw0,hpl0,et,if_pos (.inr ⟨d2,d3⟩)] at e;exact one e et (by rw[ec];exact hre) hin
 |_=>rcases hkk with ⟨h,e⟩|⟨_,e⟩|⟨_,e⟩|⟨_,_,_,e⟩|⟨_,_,_,e⟩|⟨_,_,_,_,e⟩|⟨_,e⟩|e<;>cases e
end
section
variable {N L n n1 s q cq d kd i j a b:Nat} {σ τ υ σ1 σ2 σ4:St} {t t0 t2 u u2:Txn} {c c2:Cal} {r:Res} {k k':K} {ok:Option K} {o:En.Op} {C:Nat→List Nat} {O:Nat→Nat} {y l v w M:Nat} {h:Hunt}
theorem InC.slot (hw:WF N L n σ) (hc:CS N σ C O) (hy:y<64) (hl:InC σ y l):slotOf l<N∧O (slotOf l)=y+1:=by
 have:=hc.lo y hy l ((hc.inC hy).1 hl);exact⟨this.1.slotOf,this.2⟩
theorem LN.write (hL:LN σ t) (hk:KL σ t c.op k) (hre:c.r.e=0) (hi:TI σ) (hw:WF N L n σ) (hc:CS N σ C O) (hpv:Pv N σ O s c.seq k) (hs:s<8) (p:Stp N L n s σ σ1 kd r t c k σ2 ok t2 c2) (hrm:privOf k=0→Room σ)
 (hkk:(∃ x l hd,k=.slotB x l hd)∨(∃ x l hd,k=.slotE x l hd)∨(∃ l hd,k=.push l hd)∨(∃ l hd,k=.overN l hd)∨(∃ l hd,k=.pushC l hd)∨(∃ l hd,k=.overC l hd)∨(∃ l w,k=.claim l w)∨(∃ e,k=.again e)∨(∃ w now,k=.turn w now)∨k=.helpJ∨k=.commit∨∃ x l r,k=.turns (x::l) r):
 ∃ k',ok=some k'∧LN σ1 t2∧KL σ1 t2 c2.op k'∧c2.r.e=0:=by
 have et:(σ.setC s {c with waits:=false}).tick.t s=t:=p.m.et;have et0:(σ.setC s {c with waits:=false}).t s=t:=p.m.et;have ec:(σ.setC s {c with waits:=false}).tick.c s={c with waits:=false}:=p.m.ec;have ec0:(σ.setC s {c with waits:=false}).c s={c with waits:=false}:=p.m.ec;have hs8:s<σ.txns.length:=by rw[hw.sh.t8];exact hs
 have hmd:=p.made;have hcop:=p.cop;have hc2:σ2.c s=c2:=by obtain⟨d,m2⟩:=p.m2;exact m2.ec
 have ht2:=p.t2s;have hbg:=hi.bg s t p.tx;have hip:=hi.ip s t p.tx;have hmm:σ.made≤2000:=hw.sh.md;have hl1:=hw.sh.l1;have hck:=((hw.sh.wd 0).ck rfl).1;have hpl:∀ id,σ.place id=73+N*3+id:=hw.sh.place;have hwl:σ.words.length=73+N*3+2000+1:=hw.sh.nw;have hkey:c.op.key<64:=opKey p.m.op;have hw0:∀ i,(σ.setC s {c with waits:=false}).word i=σ.word i:=fun _=>rfl
 have hpl0:∀ i,(σ.setC s {c with waits:=false}).place i=σ.place i:=fun _=>rfl
 have hko:=p.kok;have ct:∀ i o v,((σ.setC s {c with waits:=false}).cas i o v).t s=t:=fun i o v=>by unfold St.cas;split<;>exact et
 have cc:∀ i o v,((σ.setC s {c with waits:=false}).cas i o v).c s={c with waits:=false}:=fun i o v=>by unfold St.cas;split<;>exact ec
 have hnl:∀ y l i,y<64→InC σ y l→i<3→73≤wslot l i∧wslot l i<73+N*3:=fun y l i hy hl hi3=>by
  have:=(hl.slot hw hc hy).1;unfold wslot;omega
 have e:=p.run;have mineU:U0 (timeOf (σ1.word 0)) σ1.made (mine t):=.inr ⟨t.id,rfl,hip.1,by rw[hmd];exact hip.2⟩;have priv:∀ {j i},privOf k≠0→i<3→wr (σ.setC s {c with waits:=false}) s k=some (wslot (privOf k) i,j)→t2=t→(∀ l,k≠.pushC l (σ.word (9+c.op.key))∧k≠.overC l (σ.word (9+c.op.key)))→LK N (privOf k)→LN σ1 t2∧σ1.word (wslot (privOf k) i)=j∧∀ z,z≠wslot (privOf k) i→σ1.word z=σ.word z:=fun {j i} h0 h3 hwr h2 hnp hlk=>by
  have hsl:=hlk.slotOf;have hge:73≤wslot (privOf k) i∧wslot (privOf k) i<73+N*3:=by unfold wslot;omega
  have hne0:σ1.word 0=σ.word 0:=(p.some_w hwr 0).1 (by omega);refine⟨hL.put hi hw hc hpv hs p hwr (priv_far hw hc hpv h0 h3) (fun i' _ _ _=>by rw[hpl];omega) (by rw[h2]) (by rw[h2]) hnp (by rw[h2]) (fun h=>by rw[hne0];exact hL.la (by rw[←h2];exact h)) (by rw[hne0];exact Nat.le_refl _),(p.some_w hwr 0).2 (by omega),fun z hz=>(p.some_w hwr z).1 hz⟩
 have out:∀ {υ:St} {k':K},(υ,some k')=(σ2,ok)→ok=some k'∧(υ.t s=t→t2=t)∧(υ.c s={c with waits:=false}→c2.r.e=0):=fun {υ k'} e=>by
  obtain⟨rfl,e2⟩:=Prod.mk.injEq _ _ _ _ ▸ e;exact⟨e2.symm,fun h=>ht2.symm.trans h,fun h=>by rw[←hc2,h];exact hre⟩
 have cells:∀ {x:Cel},t2.cell c.op.key=some x→(∀ z,z≠c.op.key→t2.cell z=t.cell z)→t2.bonds=t.bonds→t2.reads=t.reads→(∀ z,z≠c.op.key→∀ l,z<64→InC σ z l→σ1.word (wslot l 0)=σ.word (wslot l 0)∧σ1.word (wslot l 1)=σ.word (wslot l 1))→
  (∀ l,InC σ1 c.op.key l→U0 (timeOf (σ1.word 0)) σ1.made (σ1.word (wslot l 0))∧(σ1.word (wslot l 1)=ever∨U0 (timeOf (σ1.word 0)) σ1.made (σ1.word (wslot l 1))))→((x.own≠0→InC σ1 c.op.key x.own)∧(x.old≠0→InC σ1 c.op.key x.old))→(∀ i,σ1.word (σ.place i)=σ.word (σ.place i))→σ1.word 0=σ.word 0→t2.end_=t.end_→LN σ1 t2:=fun {x} hx hne bo rd w1 w2 po hpw h00 hen=>by
  refine hL.next hi hw hc hpv hs p bo (fun y hy=>?_) (fun y hy ey=>?_) (fun y l hy hl hcn=>?_) (fun y l hy hl hcn=>?_) (fun y z hz=>?_) (fun r hr=>.inl (by rw[←rd];exact hr)) (fun i _ _ _=>by rw[p.pl];exact hpw i) (fun h=>by rw[h00];exact hL.la (by rw[←hen];exact h)) (by rw[h00];exact Nat.le_refl _)
  · by_cases ey:y=c.op.key
    · rw[ey,hx] at hy;cases hy
    · rw[←hne y ey];exact hy
  · rw[ey,hx] at hy;cases hy
  · by_cases ey:y=c.op.key
    · rw[ey,hx] at hcn;cases hcn
    · exact w1 y ey l hy hl
  · by_cases ey:y=c.op.key
    · subst ey;exact w2 l hl
    · have hl':InC σ y l:=by
       rcases p.inC1 hw hc hpv hs hy hl with g|⟨-,g2,-⟩
       · exact g
       · exact absurd g2 ey
      obtain⟨a,b⟩:=w1 y ey l hy hl';rw[a,b,h00,hmd];exact (hL.vc y l hy hl').2
  · by_cases ey:y=c.op.key
    · subst ey
      rw[hx] at hz;obtain rfl:=Option.some.inj hz;exact⟨hkey,po⟩
    · rw[hne y ey] at hz
      obtain⟨a,b,c'⟩:=hL.po y z hz;exact⟨a,fun h=>p.inC2 hw hc hpv hs a (b h),fun h=>p.inC2 hw hc hpv hs a (c' h)⟩
 cases k with
 |slotB x l hd=>
  simp only[St.run] at e;obtain⟨o1,o2,o3⟩:=out e;have h2:=o2 et0;obtain⟨a,b,-⟩:=priv (i:=0) (j:=mine t) hko.1.ne (by omega) (by unfold wr;rw[et0];rfl) h2 (fun l=>⟨(by intro e;cases e),(by intro e;cases e)⟩) hko.1;exact⟨_,o1,a,by rw[h2];exact b,o3 ec0⟩
 |slotE x l hd=>
  simp only[St.run] at e;obtain⟨o1,o2,o3⟩:=out e;have h2:=o2 et0;obtain⟨a,b,c'⟩:=priv (i:=1) (j:=ever) hko.1.ne (by omega) rfl h2 (fun l=>⟨(by intro e;cases e),(by intro e;cases e)⟩) hko.1;have hm:σ1.word (wslot l 0)=mine t:=(c' _ (by show wslot l 0≠wslot l 1;unfold wslot;omega)).trans hk;refine⟨_,o1,a,?_,o3 ec0⟩;rw[h2]
  cases x
  · exact⟨hm,b⟩
  · exact⟨hm,b⟩
 |push l hd=>
  simp only[St.run] at e;obtain⟨o1,o2,o3⟩:=out e;have h2:=o2 et0;obtain⟨a,b,c'⟩:=priv (i:=2) (j:=hd) hko.1.ne (by omega) rfl h2 (fun l=>⟨(by intro e;cases e),(by intro e;cases e)⟩) hko.1;refine⟨_,o1,a,?_,o3 ec0⟩;rw[h2];exact⟨(c' _ (by show wslot l 0≠wslot l 2;unfold wslot;omega)).trans hk.1,(c' _ (by show wslot l 1≠wslot l 2;unfold wslot;omega)).trans hk.2⟩
 |overN l hd=>
  simp only[St.run] at e;obtain⟨o1,o2,o3⟩:=out e;have h2:=o2 et0;obtain⟨a,b,c'⟩:=priv (i:=2) (j:=hd) hko.1.ne (by omega) rfl h2 (fun l=>⟨(by intro e;cases e),(by intro e;cases e)⟩) hko.1;refine⟨_,o1,a,?_,o3 ec0⟩;rw[h2];exact⟨(c' _ (by show wslot l 0≠wslot l 2;unfold wslot;omega)).trans hk.1,(c' _ (by show wslot l 1≠wslot l 2;unfold wslot;omega)).trans hk.2⟩
 |pushC l hd=>
  simp only[St.run] at e;rw[hw0,ec0] at e;have hns:∀ y l',y<64→InC σ y l'→l'≠l:=fun y l' hy hl' e'=>by
   have h1:=hpv.priv (k:=.pushC l hd) hko.1.ne;have h2:=(hl'.slot hw hc hy).2;rw[e'] at h2;have h1':O (slotOf l)=100+s:=h1;omega
  by_cases hh:σ.word (9+c.op.key)=hd
  · rw[if_neg (by simp[hh])] at e
    obtain⟨o1,-,-⟩:=out e;obtain⟨e1,e2⟩:=Prod.mk.injEq _ _ _ _ ▸ e;have h2:t2={t with cells:=(c.op.key,⟨l,0,true⟩)::t.cells,keys:=t.keys++[c.op.key]}:=by
     rw[←ht2,←e1];unfold St.takeKey;rw[setT_t _ _ _ (by show s<((σ.setC s {c with waits:=false}).cas _ _ _).txns.length;unfold St.cas;split<;>exact hs8),ct]
    have hwr:wr (σ.setC s {c with waits:=false}) s (.pushC l hd)=some (9+c.op.key,l):=by unfold wr;rw[hw0,ec0];exact if_pos hh
    have hwd:=fun z=>(p.some_w hwr z).1
    have hhd:σ1.word (9+c.op.key)=l:=(p.some_w hwr 0).2 (by omega);have hin:InC σ1 c.op.key l:=by
     rcases p.chains hw hc hpv hs hkey with g|⟨link,g1,g2,g3,g4⟩
     · exfalso
       have:=g.first (by rw[hhd];exact hko.1.ne);rw[hhd] at this;exact hns _ _ hkey ((hc.inC hkey).2 this) rfl
     · rw[hhd] at g3
       exact⟨_,g4,by rw[g3];exact List.mem_cons_self⟩
    refine⟨_,o1,?_,by show (0:Nat)≠14;omega,by rw[←hc2,←e1];show (((σ.setC s {c with waits:=false}).cas _ _ _).c s).r.e=0;rw[cc];exact hre⟩;refine cells (x:=⟨l,0,true⟩) (by rw[h2];exact cell_take t _ _) (fun z hz=>by rw[h2];exact cell_take_ne t _ hz) (by rw[h2]) (by rw[h2]) (fun z hz l' hzl hl'=>?_) (fun l' hl'=>?_) ⟨fun _=>hin,fun h=>absurd rfl h⟩ (fun i=>hwd _ (by rw[hpl];omega)) (hwd _ (by omega)) (by rw[h2])
    · have a:=hnl z l' 0 hzl hl' (by omega)
      have b:=hnl z l' 1 hzl hl' (by omega);exact⟨hwd _ (by omega),hwd _ (by omega)⟩
    · have hge:73≤wslot l 0∧73≤wslot l 1:=by unfold wslot;omega
      rcases p.inC1 hw hc hpv hs hkey hl' with g|⟨g1,-⟩
      · have a:=hnl _ l' 0 hkey g (by omega)
        have b:=hnl _ l' 1 hkey g (by omega);rw[hwd (wslot l' 0) (by omega),hwd (wslot l' 1) (by omega),hwd 0 (by omega),hmd];exact (hL.vc _ l' hkey g).2
      · have:l'=l:=g1.symm
        rw[this,hwd (wslot l 0) (by omega),hwd (wslot l 1) (by omega),hk.1,hk.2];exact⟨mineU,.inl rfl⟩
  · rw[if_pos hh] at e
    obtain⟨o1,o2,o3⟩:=out e;have h2:=o2 (ct _ _ _);refine⟨_,o1,hL.stay hi hw hc hpv hs p (by unfold wr;rw[hw0,ec0];exact if_neg hh) (by rw[h2]) (by rw[h2]) (by rw[h2]) (fun l'=>⟨fun e=>?_,(by intro e;cases e)⟩) (fun r hr=>.inl (by rw[←h2];exact hr)),trivial,o3 (cc _ _ _)⟩;obtain⟨-,e9⟩:=K.pushC.injEq _ _ _ _ ▸ e;exact hh e9.symm
 |overC l hd=>
  simp only[St.run] at e;rw[hw0,ec0] at e;obtain⟨z0,hz0⟩:=Option.isSome_iff_exists.1 hko.2.2.1;have hz0:t.cell c.op.key=some z0:=hz0;have hns:∀ y l',y<64→InC σ y l'→l'≠l:=fun y l' hy hl' e'=>by
   have h1:=hpv.priv (k:=.overC l hd) hko.1.ne;have h2:=(hl'.slot hw hc hy).2;rw[e'] at h2;have h1':O (slotOf l)=100+s:=h1;omega
  by_cases hh:σ.word (9+c.op.key)=hd
  · rw[if_neg (by simp[hh])] at e
    obtain⟨o1,-,-⟩:=out e;obtain⟨e1,e2⟩:=Prod.mk.injEq _ _ _ _ ▸ e;have h2:t2={t with cells:=upd t.cells c.op.key ⟨l,z0.old,true⟩}:=by
     rw[←ht2,←e1];unfold St.setX;rw[setT_t _ _ _ (by show s<((σ.setC s {c with waits:=false}).cas _ _ _).txns.length;unfold St.cas;split<;>exact hs8),ct];unfold St.x;rw[ct,hz0];rfl
    have hwr:wr (σ.setC s {c with waits:=false}) s (.overC l hd)=some (9+c.op.key,l):=by unfold wr;rw[hw0,ec0];exact if_pos hh
    have hwd:=fun z=>(p.some_w hwr z).1
    have hhd:σ1.word (9+c.op.key)=l:=(p.some_w hwr 0).2 (by omega);have hin:InC σ1 c.op.key l:=by
     rcases p.chains hw hc hpv hs hkey with g|⟨link,g1,g2,g3,g4⟩
     · exfalso
       have:=g.first (by rw[hhd];exact hko.1.ne);rw[hhd] at this;exact hns _ _ hkey ((hc.inC hkey).2 this) rfl
     · rw[hhd] at g3
       exact⟨_,g4,by rw[g3];exact List.mem_cons_self⟩
    refine⟨_,o1,?_,by show (0:Nat)≠14;omega,by rw[←hc2,←e1];show (((σ.setC s {c with waits:=false}).cas _ _ _).c s).r.e=0;rw[cc];exact hre⟩;refine cells (x:=⟨l,z0.old,true⟩) (by rw[h2];exact cell_upd t hz0) (fun z hz=>by rw[h2];exact cell_upd_ne t _ hz) (by rw[h2]) (by rw[h2]) (fun z hz l' hzl hl'=>?_) (fun l' hl'=>?_) ⟨fun _=>hin,fun h=>p.inC2 hw hc hpv hs hkey ((hL.po _ z0 hz0).2.2 h)⟩ (fun i=>hwd _ (by rw[hpl];omega)) (hwd _ (by omega)) (by rw[h2])
    · have a:=hnl z l' 0 hzl hl' (by omega)
      have b:=hnl z l' 1 hzl hl' (by omega);exact⟨hwd _ (by omega),hwd _ (by omega)⟩
    · have hge:73≤wslot l 0∧73≤wslot l 1:=by unfold wslot;omega
      rcases p.inC1 hw hc hpv hs hkey hl' with g|⟨g1,-⟩
      · have a:=hnl _ l' 0 hkey g (by omega)
        have b:=hnl _ l' 1 hkey g (by omega);rw[hwd (wslot l' 0) (by omega),hwd (wslot l' 1) (by omega),hwd 0 (by omega),hmd];exact (hL.vc _ l' hkey g).2
      · have:l'=l:=g1.symm
        rw[this,hwd (wslot l 0) (by omega),hwd (wslot l 1) (by omega),hk.1,hk.2];exact⟨mineU,.inl rfl⟩
  · rw[if_pos hh] at e
    obtain⟨o1,o2,o3⟩:=out e;have h2:=o2 (ct _ _ _);refine⟨_,o1,hL.stay hi hw hc hpv hs p (by unfold wr;rw[hw0,ec0];exact if_neg hh) (by rw[h2]) (by rw[h2]) (by rw[h2]) (fun l'=>⟨by (intro e;cases e),fun e=>?_⟩) (fun r hr=>.inl (by rw[←h2];exact hr)),by rw[h2];exact KL.cong (p.none_w (by unfold wr;rw[hw0,ec0];exact if_neg hh)) hmd hk,o3 (cc _ _ _)⟩;obtain⟨-,e9⟩:=K.overC.injEq _ _ _ _ ▸ e;exact hh e9.symm
 |claim l w=>
  obtain⟨hin,hev,rfl⟩:=hk;have hsl:=(hin.slot hw hc hkey)
  simp only[St.run] at e;rw[hw0,hev,if_neg (by simp)] at e;have hwr:wr (σ.setC s {c with waits:=false}) s (.claim l ever)=some (wslot l 1,mine t):=by unfold wr;rw[hw0,et0];exact if_pos hev
  have hge:=hnl _ l 1 hkey hin (by omega);have hwd:=fun z=>(p.some_w hwr z).1
  have hw1:σ1.word (wslot l 1)=mine t:=(p.some_w hwr 0).2 (by omega);have hLN:∀ {x},t2={t with cells:=(c.op.key,⟨0,l,false⟩)::t.cells,keys:=t.keys++[c.op.key]}→x=x→LN σ1 t2:=fun {x} h2 (_:(x:Nat)=x)=>by
   refine cells (x:=⟨0,l,false⟩) (by rw[h2];exact cell_take t _ _) (fun z hz=>by rw[h2];exact cell_take_ne t _ hz) (by rw[h2]) (by rw[h2]) (fun z hz l' hzl hl'=>?_) (fun l' hl'=>?_) ⟨fun h=>absurd rfl h,fun _=>p.inC2 hw hc hpv hs hkey hin⟩ (fun i=>hwd _ (by rw[hpl];omega)) (hwd _ (by omega)) (by rw[h2])
   · have h3:=(hl'.slot hw hc hzl).2
     have hne:∀ i,i<3→wslot l' i≠wslot l 1:=fun i hi3 e'=>by
      have:=(wslotI e' hi3 (by omega)).1;rw[this] at h3;have:=hsl.2;omega
     exact⟨hwd _ (hne 0 (by omega)),hwd _ (hne 1 (by omega))⟩
   · have g:InC σ c.op.key l':=by
      rcases p.inC1 hw hc hpv hs hkey hl' with g|⟨-,-,g3⟩
      · exact g
      · rcases g3 with g3|g3<;>cases g3
     have hv:=(hL.vc _ l' hkey g).2;have h00:σ1.word 0=σ.word 0:=hwd 0 (by omega);refine⟨by rw[hwd (wslot l' 0) (fun e'=>by have:=(wslotI e' (by omega) (by omega)).2;omega),h00,hmd];exact hv.1,?_⟩
     by_cases e':wslot l' 1=wslot l 1
     · rw[e',hw1];exact .inr mineU
     · rw[hwd _ e',h00,hmd];exact hv.2
  have ctk:∀ υ:St,υ.txns=(((σ.setC s {c with waits:=false}).cas (wslot l 1) ever (mine ((σ.setC s {c with waits:=false}).t s))).takeKey s (((σ.setC s {c with waits:=false}).cas (wslot l 1) ever (mine ((σ.setC s {c with waits:=false}).t s))).c s).op.key ⟨0,l,false⟩).txns→υ.t s={t with cells:=(c.op.key,⟨0,l,false⟩)::t.cells,keys:=t.keys++[c.op.key]}:=fun υ h=>by
   rw[t_of_txns h];unfold St.takeKey;rw[setT_t _ _ _ (by show s<((σ.setC s {c with waits:=false}).cas _ _ _).txns.length;unfold St.cas;split<;>exact hs8),ct,cc]
  split at e
  · obtain⟨o1,-,-⟩:=out e
    obtain⟨e1,e2⟩:=Prod.mk.injEq _ _ _ _ ▸ e;refine⟨_,o1,hLN (x:=0) (by rw[←ht2];exact ctk _ (by rw[←e1])) rfl,by show (0:Nat)≠14;omega,?_⟩;rw[←hc2,←e1];show (((σ.setC s {c with waits:=false}).cas _ _ _).c s).r.e=0;rw[cc];exact hre
  · obtain⟨e1,e2⟩:=Prod.mk.injEq _ _ _ _ ▸ e
    obtain⟨l',hsb⟩:=slot_room (s:=s) (υ:=(((σ.setC s {c with waits:=false}).cas (wslot l 1) ever (mine ((σ.setC s {c with waits:=false}).t s))).takeKey s (((σ.setC s {c with waits:=false}).cas (wslot l 1) ever (mine ((σ.setC s {c with waits:=false}).t s))).c s).op.key ⟨0,l,false⟩)) (σ:=σ) (by show ((σ.setC s {c with waits:=false}).cas _ _ _).free=_;unfold St.cas;split<;>rfl) (by show ((σ.setC s {c with waits:=false}).cas _ _ _).listed=_;unfold St.cas;split<;>rfl) (by show ((σ.setC s {c with waits:=false}).cas _ _ _).slots=_;unfold St.cas;split<;>rfl) (hrm rfl) true 0;rw[hsb] at e2;refine⟨_,e2.symm,hLN (x:=0) (by rw[←ht2];exact ctk _ (by rw[←e1];exact slot_tx _ _ _ _ _)) rfl,trivial,?_⟩;rw[←hc2,←e1,slot_c];show (((σ.setC s {c with waits:=false}).cas _ _ _).c s).r.e=0;rw[cc];exact hre
 |again e0=>
  obtain⟨⟨z0,hz0,hz1⟩,he0⟩:=hk;have hin:=(hL.po _ z0 hz0).2.1 hz1;have hsl:=(hin.slot hw hc hkey)
  have hx:(σ.setC s {c with waits:=false}).x s c.op.key=z0:=by unfold St.x;rw[et0,hz0];rfl
  have hwr:wr (σ.setC s {c with waits:=false}) s (.again e0)=some (wslot z0.own 1,e0):=by unfold wr;rw[ec0];show some (wslot ((σ.setC s {c with waits:=false}).x s c.op.key).own 1,e0)=_;rw[hx]
  have hge:=hnl _ z0.own 1 hkey hin (by omega);have hwd:=fun z=>(p.some_w hwr z).1
  have hw1:σ1.word (wslot z0.own 1)=e0:=(p.some_w hwr 0).2 (by omega);simp only[St.run] at e;rw[ec0] at e;obtain⟨o1,-,-⟩:=out e;obtain⟨e1,e2⟩:=Prod.mk.injEq _ _ _ _ ▸ e;simp only[hx] at e1;have hpc:∀ i v,((σ.setC s {c with waits:=false}).put i v).c s={c with waits:=false}:=fun i v=>ec0
  rw[hpc] at e1;have hift:∀ (υ:St) (b:Bool) (vs:List (Nat×Nat)),(if b=true then {υ with values:=vs} else υ).t s=υ.t s:=fun υ b vs=>by split<;>rfl
  have hifc:∀ (υ:St) (b:Bool) (vs:List (Nat×Nat)),(if b=true then {υ with values:=vs} else υ).c s=υ.c s:=fun υ b vs=>by split<;>rfl
  have h2:t2={t with cells:=upd t.cells c.op.key {z0 with there:=(c.op.kind !=4)}}:=by
   rw[←ht2,←e1,hift];unfold St.setX;rw[setT_t _ _ _ (by exact hs8)];have:((σ.setC s {c with waits:=false}).put (wslot z0.own 1) e0).t s=t:=et0;rw[this]
  refine⟨_,o1,?_,by show (0:Nat)≠14;omega,by rw[←hc2,←e1,hifc];exact (show ((σ.setC s {c with waits:=false}).c s).r.e=0 from by rw[ec0];exact hre)⟩;refine cells (x:={z0 with there:=(c.op.kind !=4)}) (by rw[h2];exact cell_upd t hz0) (fun z hz=>by rw[h2];exact cell_upd_ne t _ hz) (by rw[h2]) (by rw[h2]) (fun z hz l' hzl hl'=>?_) (fun l' hl'=>?_) ⟨fun _=>p.inC2 hw hc hpv hs hkey hin,fun h=>p.inC2 hw hc hpv hs hkey ((hL.po _ z0 hz0).2.2 h)⟩ (fun i=>hwd _ (by rw[hpl];omega)) (hwd _ (by omega)) (by rw[h2])
  · have h3:=(hl'.slot hw hc hzl).2
    have hne:∀ i,i<3→wslot l' i≠wslot z0.own 1:=fun i hi3 e'=>by
     have:=(wslotI e' hi3 (by omega)).1;rw[this] at h3;have:=hsl.2;omega
    exact⟨hwd _ (hne 0 (by omega)),hwd _ (hne 1 (by omega))⟩
  · have g:InC σ c.op.key l':=by
     rcases p.inC1 hw hc hpv hs hkey hl' with g|⟨-,-,g3⟩
     · exact g
     · rcases g3 with g3|g3<;>cases g3
    have hv:=(hL.vc _ l' hkey g).2;have h00:σ1.word 0=σ.word 0:=hwd 0 (by omega);refine⟨by rw[hwd (wslot l' 0) (fun e'=>by have:=(wslotI e' (by omega) (by omega)).2;omega),h00,hmd];exact hv.1,?_⟩
    by_cases e':wslot l' 1=wslot z0.own 1
    · rw[e',hw1]
      rcases he0 with rfl|rfl
      · exact .inr mineU
      · exact .inl rfl
    · rw[hwd _ e',h00,hmd];exact hv.2
 |turn w now=>
  obtain⟨-,ht⟩:=hi.step_turn hw p;have hkt:KT (Bnd σ t) (CkOk σ) t (.turn w now):=(hi.kk s t _ p.tx p.kof).resolve_left (fun ⟨_,_,e⟩=>by cases e);have hnp:∀ l,K.turn w now≠.pushC l (σ.word (9+c.op.key))∧K.turn w now≠.overC l (σ.word (9+c.op.key)):=fun l=>⟨(by intro e;cases e),(by intro e;cases e)⟩
  have hce:c2.r.e=0:=by
   simp only[St.run] at e
   split at e
   · exact (out e).2.2 (cc _ _ _)
   · obtain⟨e1,-⟩:=Prod.mk.injEq _ _ _ _ ▸ e
     rw[←hc2,←e1];show (((σ.setC s {c with waits:=false}).cas _ _ _).c s).r.e=0;rw[cc];exact hre
  rcases ht with ⟨h1,h2,-,-,h5⟩|⟨h1,h2,-,h4,h5⟩
  · exact⟨_,h5,hL.stay hi hw hc hpv hs p (by unfold wr;rw[hw0];exact if_neg h1) (by rw[h2]) (by rw[h2]) (by rw[h2]) hnp (fun r hr=>.inl (by rw[←h2];exact hr)),trivial,hce⟩
  · refine⟨_,h5,hL.put hi hw hc hpv hs p (j:=0) (w:=clockW (now+1) t.id) (by unfold wr;rw[hw0,et0];exact if_pos h1) (fun y l hy hl=>?_) (fun i _ _ _=>by rw[hpl];omega) (by rw[h2]) (by rw[h2]) hnp (by rw[h2]) (fun h=>?_) (by omega),trivial,hce⟩
    · have a:=hnl y l 0 hy hl (by omega)
      have b:=hnl y l 1 hy hl (by omega);omega
    · rw[h2] at h
      exact absurd h (Nat.succ_ne_zero _)
 |helpJ=>
  obtain⟨-,h2,-⟩:=hi.step_helpJ hw p;have hen:t.end_≠0:=(hi.kk s t _ p.tx p.kof).resolve_left (fun ⟨_,_,e⟩=>by cases e);simp only[St.run] at e;have hth:∀ υ:St,∀ x,(υ.help x).t s=υ.t s∧(υ.help x).c s=υ.c s:=fun υ x=>by unfold St.help St.cas;split<;>exact⟨rfl,rfl⟩
  obtain⟨o1,-,o3⟩:=out e;rw[(hth _ _).1,et0] at o1;have hlo:lastOf (clockW t.end_ t.id)=t.id:=by unfold lastOf clockW;omega
  have hnp:∀ l,K.helpJ≠.pushC l (σ.word (9+c.op.key))∧K.helpJ≠.overC l (σ.word (9+c.op.key)):=fun l=>⟨(by intro e;cases e),(by intro e;cases e)⟩
  have hLN:LN σ1 t2:=by
   by_cases hp1:σ.word (σ.place t.id)=pack 1 0
   · have hwr:wr (σ.setC s {c with waits:=false}) s .helpJ=some (σ.place t.id,pack 2 (timeOf (clockW t.end_ t.id))):=by unfold wr;rw[et0,hlo,hpl0,hw0];exact if_pos hp1
     have h00:σ1.word 0=σ.word 0:=(p.some_w hwr 0).1 (by rw[hpl];omega);refine hL.put hi hw hc hpv hs p hwr (fun y l hy hl=>?_) (fun i _ _ h3=>by rw[hpl,hpl];omega) (by rw[h2]) (by rw[h2]) hnp (by rw[h2]) (fun h=>by rw[h2] at h;exact absurd h hen) (by rw[h00];exact Nat.le_refl _);have a:=hnl y l 0 hy hl (by omega);have b:=hnl y l 1 hy hl (by omega);rw[hpl];omega
   · exact hL.stay hi hw hc hpv hs p (by unfold wr;rw[et0,hlo,hpl0,hw0];exact if_neg hp1) (by rw[h2]) (by rw[h2]) (by rw[h2]) hnp (fun r hr=>.inl (by rw[←h2];exact hr))
  have hbe:t.begin_≤t.end_:=by have:=hbg.2.2.2 hen;omega
  refine⟨_,o1,hLN,?_,o3 ((hth _ _).2.trans ec0)⟩;rw[h2] at hLN ⊢;exact judge_KL hLN hbe 0 (Nat.zero_le _)
 |commit=>
  obtain⟨-,h2,-,h4⟩:=hi.step_commit hw p;have hen:t.end_≠0:=(hi.kk s t _ p.tx p.kof).resolve_left (fun ⟨_,_,e⟩=>by cases e);have hwr:wr (σ.setC s {c with waits:=false}) s .commit=some (σ.place t.id,pack 3 t.end_):=by unfold wr;rw[et0];rfl
  have h00:σ1.word 0=σ.word 0:=(p.some_w hwr 0).1 (by rw[hpl];omega);simp only[St.run] at e;have hce:c2.r.e=0:=by
   obtain⟨e1,-⟩:=Prod.mk.injEq _ _ _ _ ▸ e;rw[←hc2,←e1];have:∀ (υ:St) (x:Ev),(υ.tellEnd s x).c s=υ.c s:=fun υ x=>by unfold St.tellEnd;split<;>rfl
   rw[this];show ((σ.setC s {c with waits:=false}).c s).r.e=0;rw[ec0];exact hre
  refine⟨_,h4,hL.put hi hw hc hpv hs p hwr (fun y l hy hl=>?_) (fun i _ _ h3=>by rw[hpl,hpl];omega) (by rw[h2]) (by rw[h2]) (fun l=>⟨(by intro e;cases e),(by intro e;cases e)⟩) (by rw[h2]) (fun h=>by rw[h2] at h;exact absurd h hen) (by rw[h00];exact Nat.le_refl _),⟨rfl,by rw[h2];exact hen,fun x hx=>?_⟩,hce⟩
  · have a:=hnl y l 0 hy hl (by omega)
    have b:=hnl y l 1 hy hl (by omega);rw[hpl];omega
  · unfold commitTurns at hx
    obtain⟨key,-,hx⟩:=List.mem_flatMap.1 hx;have hcs:∀ {P:Prop},(((t.cell key).getD default).own≠0∨((t.cell key).getD default).old≠0)→(∀ z,t.cell key=some z→(t.cell key).getD default=z→P)→P:=fun hh f=>by
     cases hz:t.cell key with
     |none=>rw[hz] at hh;exact absurd rfl (hh.elim id id)
     |some z=>exact f z hz (by rw[hz];rfl)
    have ht2c:∀ z,t.cell key=some z→t2.cell key=some z:=fun z hz=>by rw[h2];exact hz
    have hte:t2.end_=t.end_:=by rw[h2]
    rw[hte]
    rcases List.mem_append.1 hx with hx|hx
    · split at hx
      · rename_i h0
        refine hcs (.inl h0) (fun z hz hzz=>?_);rw[hzz] at h0 hx
        rcases List.mem_cons.1 hx with rfl|hx
        · exact⟨rfl,key,z,ht2c z hz,.inl ⟨h0,.inl rfl⟩⟩
        · split at hx
          · cases hx
          · rw[List.mem_singleton] at hx
            rw[hx];exact⟨rfl,key,z,ht2c z hz,.inl ⟨h0,.inr rfl⟩⟩
      · cases hx
    · split at hx
      · rename_i h0
        refine hcs (.inr h0) (fun z hz hzz=>?_);rw[hzz] at h0 hx;rw[List.mem_singleton] at hx;rw[hx];exact⟨rfl,key,z,ht2c z hz,.inr ⟨h0,rfl⟩⟩
      · cases hx
 |turns tl r0=>
  obtain⟨x,tl',rfl⟩:∃ x tl',tl=x::tl':=by
   rcases hkk with ⟨_,_,_,e⟩|⟨_,_,_,e⟩|⟨_,_,e⟩|⟨_,_,e⟩|⟨_,_,e⟩|⟨_,_,e⟩|⟨_,_,e⟩|⟨_,e⟩|⟨_,_,e⟩|e|e|⟨x,l',r',e⟩
   all_goals first|(cases e;done)|(obtain⟨rfl,-⟩:=K.turns.injEq _ _ _ _ ▸ e;exact⟨_,_,rfl⟩)
  obtain⟨-,h2,-,h4,-⟩:=hi.step_turns hw p;have hnp:∀ l,K.turns (x::tl') r0≠.pushC l (σ.word (9+c.op.key))∧K.turns (x::tl') r0≠.overC l (σ.word (9+c.op.key)):=fun l=>⟨(by intro e;cases e),(by intro e;cases e)⟩
  obtain⟨hov,hen,hx⟩:=hk;obtain⟨x1,y0,z0,hz0,x3⟩:=hx x List.mem_cons_self;obtain⟨hy0,po1,po2⟩:=hL.po y0 z0 hz0;obtain⟨v0,i0,hi0,hv0,hat⟩:∃ v i,i<2∧InC σ y0 v∧x.at_=wslot v i:=by
   rcases x3 with ⟨a,b|b⟩|⟨a,b⟩
   · exact⟨_,0,by omega,po1 a,b⟩
   · exact⟨_,1,by omega,po1 a,b⟩
   · exact⟨_,1,by omega,po2 a,b⟩
  have hge:=hnl y0 v0 i0 hy0 hv0 (by omega);have hsl:=hv0.slot hw hc hy0;simp only[St.run] at e;have hce:c2.r.e=0:=by
   obtain⟨e1,-⟩:=Prod.mk.injEq _ _ _ _ ▸ e;rw[←hc2,←e1]
   split
   · show ((σ.setC s {c with waits:=false}).c s).r.e=0;rw[ec0];exact hre
   · show (((σ.setC s {c with waits:=false}).cas _ _ _).c s).r.e=0;rw[cc];exact hre
  refine⟨_,h4 x tl' rfl,?_,⟨hov,by rw[h2];exact hen,fun x' hx'=>by rw[h2];exact hx x' (List.mem_cons_of_mem _ hx')⟩,hce⟩
  by_cases hcn:x.old=0∨σ.word x.at_=x.old
  · have hwr:wr (σ.setC s {c with waits:=false}) s (.turns (x::tl') r0)=some (x.at_,x.new):=by unfold wr;rw[hw0];exact if_pos hcn
    have hwd:=fun z=>(p.some_w hwr z).1
    have hw1:σ1.word x.at_=x.new:=(p.some_w hwr 0).2 (by rw[hat];omega);have h00:σ1.word 0=σ.word 0:=hwd 0 (by rw[hat];omega);have hnew:U0 (timeOf (σ1.word 0)) σ1.made x.new:=.inl (by rw[x1,h00];exact hbg.2.2.1);have hg1:∀ y l,y<64→InC σ1 y l→InC σ y l:=fun y l hy hl=>by
     rcases p.inC1 hw hc hpv hs hy hl with g|⟨-,-,g3⟩
     · exact g
     · rcases g3 with g3|g3<;>cases g3
    refine hL.next hi hw hc hpv hs p (by rw[h2]) (fun y h=>by rw[h2] at h;exact h) (fun y _ _ l=>⟨(by intro e;cases e),(by intro e;cases e)⟩) (fun y l hy hl hcn'=>?_) (fun y l hy hl _=>?_) (fun y z hz=>?_) (fun r hr=>.inl (by rw[←h2];exact hr)) (fun i _ _ _=>by rw[p.pl];exact hwd _ (by rw[hat,hpl];omega)) (fun h=>by rw[h2] at h;rw[h00];exact hL.la h) (by rw[h00];exact Nat.le_refl _)
    · rw[h2] at hcn'
      have h3:=(hl.slot hw hc hy).2;have hne:∀ i,i<3→wslot l i≠x.at_:=fun i hi3 e'=>by
       rw[hat] at e';have:=(wslotI e' hi3 (by omega)).1;rw[this,hsl.2] at h3;have:y=y0:=by omega
       rw[this,hz0] at hcn';cases hcn'
      exact⟨hwd _ (hne 0 (by omega)),hwd _ (hne 1 (by omega))⟩
    · have hv:=(hL.vc y l hy (hg1 y l hy hl)).2
      constructor
      · by_cases e':wslot l 0=x.at_
        · rw[e',hw1];exact hnew
        · rw[hwd _ e',h00,hmd];exact hv.1
      · by_cases e':wslot l 1=x.at_
        · rw[e',hw1];exact .inr hnew
        · rw[hwd _ e',h00,hmd];exact hv.2
    · rw[h2] at hz
      obtain⟨a,b,c'⟩:=hL.po y z hz;exact⟨a,fun h=>p.inC2 hw hc hpv hs a (b h),fun h=>p.inC2 hw hc hpv hs a (c' h)⟩
  · exact hL.stay hi hw hc hpv hs p (by unfold wr;rw[hw0];exact if_neg hcn) (by rw[h2]) (by rw[h2]) (by rw[h2]) hnp (fun r hr=>.inl (by rw[←h2];exact hr))
 |_=>rcases hkk with ⟨_,_,_,e⟩|⟨_,_,_,e⟩|⟨_,_,e⟩|⟨_,_,e⟩|⟨_,_,e⟩|⟨_,_,e⟩|⟨_,_,e⟩|⟨_,e⟩|⟨_,_,e⟩|e|e|⟨x,l',r',e⟩<;>cases e
end
end Go.Proofs.YtpkenfnmkpmapaaGreat.Em.Cw
