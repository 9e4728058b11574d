import Derived.Test.YtpkenfnmkpmapaaGreatQh26
import Derived.Test.YtpkenfnmkpmapaaGreatQh27
import Derived.Deep.CutRange
import Derived.Deep.RegionWith
namespace Go.Proofs.YtpkenfnmkpmapaaGreat.Em.Cw
open En
set_option linter.unusedVariables false
set_option linter.unusedSimpArgs false
set_option maxRecDepth 100000
set_option maxHeartbeats 1600000
section
variable {N L n n1 s q cq d kd i j a b m:Nat} {σ τ υ σ1 σ2 σ4:St} {t t0 t2 u u2:Txn} {c c2:Cal} {r:Res} {k k':K} {ok:Option K} {o:En.Op} {C:Nat→List Nat} {O:Nat→Nat} {y l v w M:Nat} {h:Hunt}
def fr (N:Nat) (σ:St):Nat:=σ.free.length+(if σ.listed=true then 0 else N)
theorem fr_pe (h:Pe σ τ):fr N τ=fr N σ:=by unfold fr;rw[h.2.1,h.2.2]
theorem fr_list (hN:σ.slots=N):fr N σ=σ.list.free.length:=by
 unfold fr St.list
 split
 · rfl
 · show _=(σ.free++(List.range σ.slots).reverse).length
   rw[List.length_append,List.length_reverse,List.length_range,hN]
theorem fr_room (hN:σ.slots=N) (h:0<fr N σ):Room σ:=by
 intro e;rw[fr_list hN,e] at h;exact Nat.lt_irrefl _ h
def pr (k:K):Nat:=if privOf k≠0 then 0 else match k with
 |.fin _|.again _|.abort _ _|.turns _ _=>0
 |_=>1
def prO:Option K→Nat
 |some k=>pr k
 |none=>0
theorem pr_le (k:K):pr k≤1:=by unfold pr;split;omega;split<;>omega
theorem prO_le (k:Option K):prO k≤1:=by cases k;exact Nat.zero_le _;exact pr_le _
theorem slot_fr (hN:σ.slots=N) (x:Bool) (l hd:Nat):fr N σ+pr (σ.slot s x l hd).2≤fr N (σ.slot s x l hd).1+(if l≠0 then 0 else 1):=by
 by_cases h0:l=0
 · unfold St.slot
   rw[if_pos h0,if_neg (by simp[h0])];unfold St.take;dsimp only;have hl:σ.list.listed=true:=by unfold St.list;split;assumption;rfl
   rw[fr_list hN]
   cases e:σ.list.free.getLast? with
   |none=>show _+0≤fr N σ.list+1;unfold fr;rw[hl];simp
   |some i=>
    have hne:σ.list.free≠[]:=by intro e';rw[e'] at e;cases e
    have hlen:0<σ.list.free.length:=List.length_pos_iff.2 hne;have hp:pr (.slotB x (σ.list.linkAt i) hd)=0:=by unfold pr;rw[if_pos];show σ.list.linkAt i≠0;unfold St.linkAt linkOf;omega
    show _+pr (.slotB x (σ.list.linkAt i) hd)≤_+1;rw[hp];unfold fr;show _≤σ.list.free.dropLast.length+(if σ.list.listed=true then 0 else N)+1;rw[hl,List.length_dropLast];simp;omega
 · unfold St.slot
   rw[if_neg h0];show fr N σ+pr (.slotB x l hd)≤fr N σ+_;rw[if_pos h0];unfold pr;rw[if_pos (show privOf (.slotB x l hd)≠0 from h0)];exact Nat.le_refl _
theorem freeK_fr (hN:σ.slots=N) (l hd a:Nat):fr N σ+pr (σ.freeK s l hd a).2≤fr N (σ.freeK s l hd a).1+(if l≠0 then 0 else 1):=by
 unfold St.freeK
 split
 · exact slot_fr hN _ _ _
 · exact Nat.le_refl _
theorem give_fr (l:Nat):fr N σ≤fr N (σ.give l):=by
 unfold St.give
 split
 · dsimp only
   split
   · exact Nat.le_refl _
   · unfold fr
     show _≤(σ.free++[slotOf l]).length+_;rw[List.length_append];show _≤_+1+(if σ.listed=true then 0 else N);omega
 · exact Nat.le_refl _
theorem lost_fr (l:Nat):fr N σ+pr (σ.lost l).2≤fr N (σ.lost l).1+m:=by
 unfold St.lost;show fr N σ+0≤fr N (if l≠0 then σ.give l else σ)+m;have:=give_fr (N:=N) (σ:=σ) l
 split<;>omega
theorem pe1 (h:Pe σ τ) (hp:prO ok≤m):fr N σ+prO ok≤fr N τ+m:=by rw[fr_pe h];omega
theorem run_fr (hN:σ.slots=N) (s:Nat) (k:K):fr N σ+prO (σ.run s k).2≤fr N (σ.run s k).1+pr k:=by
 have ht:Pe σ σ.tick:=⟨rfl,rfl,rfl⟩
 have hp:∀ i v,Pe σ (σ.put i v):=fun i v=>⟨rfl,rfl,rfl⟩
 have hc:∀ i o v,Pe σ (σ.cas i o v):=cas_pe σ
 cases k with
 |fin r=>exact pe1 ⟨rfl,rfl,rfl⟩ (Nat.le_refl _)
 |start hu=>exact pe1 (ht.trans (visit_pe _ _ _ _)) (prO_le _)
 |visit hu l=>exact pe1 ht (prO_le _)
 |older hu l=>exact pe1 (ht.trans (visit_pe _ _ _ _)) (prO_le _)
 |maker hu l i=>
  unfold St.run;dsimp only
  split
  · exact pe1 ht (prO_le _)
  · split<;>exact pe1 ht (prO_le _)
 |ended hu l y=>
  unfold St.run;dsimp only
  split
  · exact pe1 ht (prO_le _)
  · split
    · exact pe1 (ht.trans (seen_pe _ _ _ _ _)) (prO_le _)
    · exact pe1 ht (prO_le _)
 |ender hu l y i=>
  unfold St.run;dsimp only
  split
  · exact pe1 (ht.trans (seen_pe _ _ _ _ _)) (prO_le _)
  · split
    · exact pe1 (ht.trans (bind_pe _ _ _)) (prO_le _)
    · exact pe1 ht (prO_le _)
 |seen hu l y=>
  unfold St.run;dsimp only
  split
  · exact pe1 ht (prO_le _)
  · refine pe1 (Pe.trans ?_ (thn_pe _ _ _ _)) (prO_le _)
    split
    · exact ht.trans (bind_pe _ _ _)
    · exact ht
 |again e=>
  unfold St.run;dsimp only
  split
  · exact pe1 ⟨rfl,rfl,rfl⟩ (Nat.le_refl _)
  · exact pe1 ⟨rfl,rfl,rfl⟩ (Nat.le_refl _)
 |own l=>
  unfold St.run;dsimp only
  split
  · exact pe1 ht (prO_le _)
  · split<;>exact pe1 ht (prO_le _)
 |ownTxn l w i=>
  unfold St.run;dsimp only
  split<;>exact pe1 ht (prO_le _)
 |claim l w=>
  unfold St.run;dsimp only
  split
  · exact pe1 (hc _ _ _) (prO_le _)
  · split
    · exact pe1 (hc _ _ _) (prO_le _)
    · have:=slot_fr (N:=N) (s:=s) (σ:=(σ.cas (wslot l 1) w (mine (σ.t s))).takeKey s ((σ.cas (wslot l 1) w (mine (σ.t s))).c s).op.key ⟨0,l,false⟩) (by show (σ.cas _ _ _).slots=N;unfold St.cas;split<;>exact hN) true 0 0
      rw[show fr N ((σ.cas (wslot l 1) w (mine (σ.t s))).takeKey s ((σ.cas (wslot l 1) w (mine (σ.t s))).c s).op.key ⟨0,l,false⟩)=fr N σ from fr_pe (hc _ _ _)] at this;exact this
 |fresh l=>exact freeK_fr (N:=N) (σ:=σ.tick) hN l _ _
 |next l hd a=>exact freeK_fr (N:=N) (σ:=σ.tick) hN l _ _
 |free l hd a=>
  unfold St.run;dsimp only
  split
  · exact Nat.le_refl _
  · split
    · exact lost_fr (N:=N) (σ:=σ.tick) l
    · exact Nat.le_refl _
 |freeTxn l hd a i=>
  unfold St.run;dsimp only
  split
  · exact Nat.le_refl _
  · exact lost_fr (N:=N) (σ:=σ.tick) l
 |slotB x l hd=>exact Nat.le_refl _
 |slotE x l hd=>
  cases x<;>exact Nat.le_refl _
 |push l hd=>exact Nat.le_refl _
 |pushC l hd=>
  unfold St.run;dsimp only
  split
  · exact pe1 (hc _ _ _) (Nat.le_refl _)
  · exact pe1 (hc _ _ _) (Nat.zero_le _)
 |over l=>exact Nat.le_refl _
 |overN l hd=>exact Nat.le_refl _
 |overC l hd=>
  unfold St.run;dsimp only
  split
  · exact pe1 (hc _ _ _) (Nat.le_refl _)
  · exact pe1 (hc _ _ _) (Nat.zero_le _)
 |draw=>
  unfold St.run;dsimp only
  split
  · exact pe1 ht (prO_le _)
  · split<;>exact pe1 ht (prO_le _)
 |drawH w n=>exact pe1 (hc _ _ _) (prO_le _)
 |turn w n=>
  unfold St.run;dsimp only
  split
  · exact pe1 (hc _ _ _) (prO_le _)
  · exact pe1 (hc _ _ _) (prO_le _)
 |helpJ=>exact pe1 (hc _ _ _) (prO_le _)
 |wait i=>
  unfold St.run;dsimp only
  split
  · exact pe1 ht (prO_le _)
  · split<;>exact pe1 ⟨rfl,rfl,rfl⟩ (prO_le _)
 |turns l r=>
  cases l with
  |nil=>exact pe1 ⟨rfl,rfl,rfl⟩ (Nat.le_refl _)
  |cons x l=>
   unfold St.run;dsimp only
   split
   · exact pe1 (hp _ _) (Nat.le_refl _)
   · exact pe1 (hc _ _ _) (Nat.le_refl _)
 |commit=>
  refine pe1 ?_ (prO_le _);show Pe σ (St.tellEnd _ _ _);unfold St.tellEnd;split<;>exact⟨rfl,rfl,rfl⟩
 |abort e r=>
  refine pe1 ?_ (Nat.le_refl _);show Pe σ (St.tellEnd _ _ _);unfold St.tellEnd;split<;>exact⟨rfl,rfl,rfl⟩
theorem first_fr (hN:σ.slots=N) (s:Nat):fr N σ+pr (σ.first s).2≤fr N (σ.first s).1+1:=by
 have P:∀ {τ:St} {k:K},Pe σ τ→fr N σ+pr k≤fr N τ+1:=fun {τ k} h=>by rw[fr_pe h];have:=pr_le k;omega
 unfold St.first;dsimp only
 split
 · split<;>exact P (Pe.refl σ)
 · exact P (scanN_pe s _ _ _)
 · exact P (Pe.refl σ)
 · exact P (Pe.refl σ)
 · split
   · split
     · exact P (Pe.refl σ)
     · split
       · exact P (Pe.refl σ)
       · split
         · exact slot_fr hN true 0 0
         · exact P (Pe.refl σ)
   · exact P (Pe.refl σ)
theorem Stp.fr (p:Stp N L n s σ σ1 kd r t c k σ2 ok t2 c2) (hN:σ.slots=N):fr N σ+prO ok≤fr N σ1+pr k:=by
 have:=run_fr (σ:=σ.setC s {c with waits:=false}) hN s k;rw[p.run] at this;obtain⟨l,cs,ts,tl,e⟩:=p.e1;rw[e];exact this
def NE:K→Prop
 |.start h|.visit h _|.older h _|.maker h _ _|.ended h _ _|.ender h _ _ _|.seen h _ _=>¬ Jd h
 |.draw|.drawH _ _|.turn _ _|.helpJ|.wait _|.commit|.turns _ _=>False
 |_=>True
theorem NE.scanN:∀ (m:Nat) (υ:St) (key:Nat),NE (En.scanN s m υ key).2
 |0,υ,key=>trivial
 |m+1,υ,key=>by
  unfold En.scanN
  split
  · trivial
  · split
    · exact NE.scanN m _ _
    · rintro ⟨i,l,e⟩;cases e
theorem NE.slot (x:Bool) (l hd:Nat):NE (σ.slot s x l hd).2:=by
 unfold St.slot;generalize (if l=0 then σ.take else (σ,some l))=z;rcases z with ⟨τ,_|l'⟩<;>trivial
theorem NE.freeK (l hd a:Nat):NE (σ.freeK s l hd a).2:=by
 unfold St.freeK;split;exact NE.slot _ _ _;trivial
theorem NE.thn (hj:¬ Jd h) (l:Nat):NE (σ.thn s h l).2:=by
 unfold St.thn
 split
 · dsimp only;split<;>trivial
 · exact NE.scanN _ _ _
 · dsimp only;(repeat' split)<;>trivial
 · rename_i i l' e;exact absurd ⟨i,l',e⟩ hj
theorem NE.visit (hj:¬ Jd h) (l:Nat):NE (σ.visit s h l).2:=by
 unfold St.visit;split;exact NE.thn hj _;exact hj
theorem NE.seen (hj:¬ Jd h) (l y:Nat):NE (σ.seen s h l y).2:=by
 unfold St.seen;split;exact NE.thn hj _;exact hj
theorem NE.run (hk:NE k) (ha:∀ e r,k≠.abort e r) (e:(σ.run s k).2=some k'):NE k':=by
 cases k with
 |fin r=>cases e
 |start h=>obtain rfl:=Option.some.inj e;exact NE.visit hk _
 |visit h l=>
  obtain rfl:=Option.some.inj e;unfold St.beginK
  split
  · exact hk
  · split<;>exact hk
 |older h l=>obtain rfl:=Option.some.inj e;exact NE.visit hk _
 |maker h l i=>
  unfold St.run at e;dsimp only at e
  split at e
  · obtain rfl:=Option.some.inj e;exact hk
  · split at e<;>(obtain rfl:=Option.some.inj e;exact hk)
 |ended h l y=>
  unfold St.run at e;dsimp only at e
  split at e
  · obtain rfl:=Option.some.inj e;exact hk
  · split at e
    · obtain rfl:=Option.some.inj e;exact NE.seen hk _ _
    · obtain rfl:=Option.some.inj e;exact hk
 |ender h l y i=>
  unfold St.run at e;dsimp only at e
  split at e
  · obtain rfl:=Option.some.inj e;exact NE.seen hk _ _
  · split at e<;>(obtain rfl:=Option.some.inj e;exact hk)
 |seen h l y=>
  unfold St.run at e;dsimp only at e
  split at e
  · obtain rfl:=Option.some.inj e;exact hk
  · obtain rfl:=Option.some.inj e;exact NE.thn hk _
 |again e0=>obtain rfl:=Option.some.inj e;trivial
 |own l=>
  unfold St.run at e;dsimp only at e
  split at e
  · obtain rfl:=Option.some.inj e;trivial
  · split at e<;>(obtain rfl:=Option.some.inj e;trivial)
 |ownTxn l w i=>
  unfold St.run at e;dsimp only at e
  split at e<;>(obtain rfl:=Option.some.inj e;trivial)
 |claim l w=>
  unfold St.run at e;dsimp only at e
  split at e
  · obtain rfl:=Option.some.inj e;trivial
  · split at e
    · obtain rfl:=Option.some.inj e;trivial
    · obtain rfl:=Option.some.inj e;exact NE.slot _ _ _
 |fresh l=>obtain rfl:=Option.some.inj e;exact NE.freeK _ _ _
 |next l hd a=>obtain rfl:=Option.some.inj e;exact NE.freeK _ _ _
 |free l hd a=>
  unfold St.run at e;dsimp only at e
  split at e
  · obtain rfl:=Option.some.inj e;trivial
  · split at e<;>(obtain rfl:=Option.some.inj e;trivial)
 |freeTxn l hd a i=>
  unfold St.run at e;dsimp only at e
  split at e<;>(obtain rfl:=Option.some.inj e;trivial)
 |slotB x l hd=>obtain rfl:=Option.some.inj e;trivial
 |slotE x l hd=>obtain rfl:=Option.some.inj e;cases x<;>trivial
 |push l hd=>obtain rfl:=Option.some.inj e;trivial
 |pushC l hd=>
  unfold St.run at e;dsimp only at e
  split at e<;>(obtain rfl:=Option.some.inj e;trivial)
 |over l=>obtain rfl:=Option.some.inj e;trivial
 |overN l hd=>obtain rfl:=Option.some.inj e;trivial
 |overC l hd=>
  unfold St.run at e;dsimp only at e
  split at e<;>(obtain rfl:=Option.some.inj e;trivial)
 |abort e0 r=>exact absurd rfl (ha e0 r)
 |_=>exact hk.elim
theorem NE.first (h6:(σ.c s).op.kind<6) (hok:opOk (σ.c s).op=true):NE (σ.first s).2:=by
 unfold St.first;dsimp only
 split
 · split
   · split<;>trivial
   · rintro ⟨i,l,e⟩;cases e
 · exact NE.scanN _ _ _
 · rename_i e;omega
 · rename_i e;omega
 · split
   · split
     · trivial
     · split
       · trivial
       · split
         · exact NE.slot _ _ _
         · trivial
   · rintro ⟨i,l,e⟩;cases e
theorem KL.abort {e r:Nat}:¬ KL σ t o (.abort e r):=fun h=>h.elim
end
section
variable {N L n n1 s q cq d kd i j a b m G M F:Nat} {σ τ υ σ1 σ2 σ4:St} {t t0 t2 u u2:Txn} {c c2:Cal} {r:Res} {k k':K} {ok:Option K} {o:En.Op} {C:Nat→List Nat} {O:Nat→Nat} {y l v w:Nat} {h:Hunt}
structure Rs (σ:St):Prop where
 dn:∀ i,1≤i→i≤σ.made→stO σ i=3∧0<endOf (σ.word (σ.place i))∧endOf (σ.word (σ.place i))≤timeOf (σ.word 0)
 vc:∀ y l,y<64→InC σ y l→U0 (timeOf (σ.word 0)) σ.made (σ.word (wslot l 0))∧(σ.word (wslot l 1)=ever∨U0 (timeOf (σ.word 0)) σ.made (σ.word (wslot l 1)))
 tm:timeOf (σ.word 0)≤2*σ.made
def Tms (σ:St) (t:Txn):Prop:=timeOf (σ.word 0)+(if t.end_=0 then 1 else 0)≤2*σ.made
structure AL (N j s:Nat) (σ:St) (t:Txn) (c:Cal) (k:K):Prop where
 tx:σ.txns.getD s none=some t
 ca:σ.calls.getD s none=some c
 ck:c.k=some k
 ln:LN σ t
 kl:KL σ t c.op k
 re:c.r.e=0
 fr:N+pr k≤fr N σ+j+1
 tm:Tms σ t
 ne:c.op.kind≠6→NE k
 ek:c.op.kind=6→EndK k
structure BL (N j s:Nat) (σ:St) (t:Txn):Prop where
 tx:σ.txns.getD s none=some t
 ca:σ.calls.getD s none=none
 ln:LN σ t
 fr:N≤fr N σ+j
 tm:Tms σ t
theorem Stp.tms (p:Stp N L n s σ σ1 kd r t c k σ2 ok t2 c2) (hi:TI σ) (hw:WF N L n σ) (h:Tms σ t):Tms σ1 t2:=by
 obtain⟨-,h2,-,-⟩:=hi.stepP hw p;have hm:=p.made;have hb:=hi.bg s t p.tx;unfold Tms at h ⊢;rw[hm]
 rcases h2 with ⟨-,e1,e2⟩|⟨_,-,-,e1,e2⟩|⟨e0,e1,e2,-⟩
 · rw[←e1,] at h;rw[e2];exact h
 · rw[←e1] at h;rw[e2];exact h
 · rw[if_pos e0] at h
   rw[if_neg (by rw[e1,e2];omega)];omega
theorem AL.run1 (hA:AL N j s σ t c k) (hi:TI σ) (hw:WF N L n σ) (hwc:WC N σ) (hs:s<8) (hj:j+1<N) (hm:2*σ.made<L) (p:Stp N L n s σ σ1 kd r t c k σ2 ok t2 c2):
 (∃ k',ok=some k'∧LN σ1 t2∧KL σ1 t2 c2.op k'∧c2.r.e=0)∨(∃ x,k=.fin x∧ok=none∧c2.r=x∧x.e≠14∧LN σ1 t2)∨(∃ x,k=.turns [] x∧ok=none∧c2.r=x∧x.over=3∧Rs σ1):=by
 obtain⟨C,O,hc,-,hpv⟩:=hwc;have hpv:=hpv s c k p.ca p.ck;have hN:σ.slots=N:=hw.sh.sl;have hrm:Room σ:=fr_room hN (by have:=hA.fr;omega);have htm:=hA.tm;unfold Tms at htm;have hlim:timeOf (σ.word 0)<σ.limit:=by rw[hw.sh.lm];omega
 have hk:=hA.kl;have hL:=hA.ln;have Q:=fun x=>LN.quiet hL hk hA.re hi hw hc hpv hs p (fun _=>hrm) hlim x
 have W:=fun x=>LN.write hL hk hA.re hi hw hc hpv hs p (fun _=>hrm) x
 cases k with
 |start h=>exact .inl (Q (.inl ⟨_,rfl⟩))
 |visit h l=>exact .inl (Q (.inl ⟨_,rfl⟩))
 |older h l=>exact .inl (Q (.inl ⟨_,rfl⟩))
 |maker h l i=>exact .inl (Q (.inl ⟨_,rfl⟩))
 |ended h l y=>exact .inl (Q (.inl ⟨_,rfl⟩))
 |ender h l y i=>exact .inl (Q (.inl ⟨_,rfl⟩))
 |own l=>exact .inl (Q (.inr (.inl ⟨_,rfl⟩)))
 |fresh l=>exact .inl (Q (.inr (.inr (.inl ⟨_,rfl⟩))))
 |next l hd a=>exact .inl (Q (.inr (.inr (.inr (.inl ⟨_,_,_,rfl⟩)))))
 |free l hd a=>exact .inl (Q (.inr (.inr (.inr (.inr (.inl ⟨_,_,_,rfl⟩))))))
 |freeTxn l hd a i=>exact .inl (Q (.inr (.inr (.inr (.inr (.inr (.inl ⟨_,_,_,_,rfl⟩)))))))
 |over l=>exact .inl (Q (.inr (.inr (.inr (.inr (.inr (.inr (.inl ⟨_,rfl⟩))))))))
 |draw=>exact .inl (Q (.inr (.inr (.inr (.inr (.inr (.inr (.inr rfl))))))))
 |slotB x l hd=>exact .inl (W (.inl ⟨_,_,_,rfl⟩))
 |slotE x l hd=>exact .inl (W (.inr (.inl ⟨_,_,_,rfl⟩)))
 |push l hd=>exact .inl (W (.inr (.inr (.inl ⟨_,_,rfl⟩))))
 |overN l hd=>exact .inl (W (.inr (.inr (.inr (.inl ⟨_,_,rfl⟩)))))
 |pushC l hd=>exact .inl (W (.inr (.inr (.inr (.inr (.inl ⟨_,_,rfl⟩))))))
 |overC l hd=>exact .inl (W (.inr (.inr (.inr (.inr (.inr (.inl ⟨_,_,rfl⟩)))))))
 |claim l w=>exact .inl (W (.inr (.inr (.inr (.inr (.inr (.inr (.inl ⟨_,_,rfl⟩))))))))
 |again e=>exact .inl (W (.inr (.inr (.inr (.inr (.inr (.inr (.inr (.inl ⟨_,rfl⟩)))))))))
 |turn w n=>exact .inl (W (.inr (.inr (.inr (.inr (.inr (.inr (.inr (.inr (.inl ⟨_,_,rfl⟩))))))))))
 |helpJ=>exact .inl (W (.inr (.inr (.inr (.inr (.inr (.inr (.inr (.inr (.inr (.inl rfl)))))))))))
 |commit=>exact .inl (W (.inr (.inr (.inr (.inr (.inr (.inr (.inr (.inr (.inr (.inr (.inl rfl))))))))))))
 |fin x=>
  refine .inr (.inl ⟨x,rfl,?_⟩);have e:=p.run;have e1:((σ.setC s {c with waits:=false}).finish s x,(none:Option K))=(σ2,ok):=e;obtain⟨e2,e3⟩:=Prod.mk.injEq _ _ _ _ ▸ e1;obtain⟨d,m2⟩:=p.m2;have h2:t2=t:=p.t2x (by rw[←e2];rfl);have hr:c2.r=x:=by
   have h1:=m2.ec;rw[←h1,←e2];show ((((σ.setC s {c with waits:=false}).calls.set s (some {(σ.setC s {c with waits:=false}).c s with r:=x,over:=true})).getD s none).getD default).r=x;rw[set_some p.m.ca];rfl
  exact⟨e3.symm,hr,hk,hL.stay hi hw hc hpv hs p rfl (by rw[h2]) (by rw[h2]) (by rw[h2]) (fun l=>⟨(by intro e;cases e),(by intro e;cases e)⟩) (fun r hr=>.inl (by rw[←h2];exact hr))⟩
 |turns tl x=>
  cases tl with
  |cons y tl=>exact .inl (W (.inr (.inr (.inr (.inr (.inr (.inr (.inr (.inr (.inr (.inr (.inr ⟨_,_,_,rfl⟩))))))))))))
  |nil=>
   obtain⟨hti,h2,-,-,h5⟩:=hi.step_turns hw p;obtain⟨h6,h7⟩:=h5 rfl;have hov:x.over=3:=hk.1;refine .inr (.inr ⟨x,rfl,h6,h7,hov,?_⟩);have hwr:wr (σ.setC s {c with waits:=false}) s (.turns [] x)=some (1+s,0):=rfl;have hwd:=fun z=>(p.some_w hwr z).1
   have hpl:∀ id,σ.place id=73+N*3+id:=hw.sh.place;have hmd:=p.made;have h00:σ1.word 0=σ.word 0:=hwd 0 (by omega);have hbg:=hi.bg s t p.tx;have hp:=hi.wd s t p.tx;rw[p.kof] at hp;obtain⟨l',r',e,-,hpw⟩:∃ l r,some (K.turns [] x)=some (.turns l r)∧(r.over=3∨r.over=4)∧σ.word (σ.place t.id)=pack r.over t.end_:=by
    rcases hp with hp|⟨hp,_⟩
    · exact hp
    · exact absurd rfl (hp _ _)
   obtain⟨-,rfl⟩:=K.turns.injEq _ _ _ _ ▸ Option.some.inj e;rw[hov] at hpw;have hen:t.end_≠0:=hk.2.1;have htm2:=p.tms hi hw hA.tm;unfold Tms at htm2;refine⟨fun i h1 h3=>?_,fun y l hy hl=>?_,by omega⟩
   · rw[hmd] at h3
     unfold stO;rw[p.pl,hwd _ (by rw[hpl];omega),h00]
     by_cases hid:i=t.id
     · rw[hid,hpw]
       refine⟨state_pack (by omega),?_,?_⟩
       · unfold endOf pack;omega
       · unfold endOf pack;omega
     · obtain⟨a,b,c'⟩:=hL.dn i h1 h3 hid
       unfold stO at a;exact⟨a,b,by omega⟩
   · have hl':InC σ y l:=by
      rcases p.inC1 hw hc hpv hs hy hl with g|⟨-,-,g3⟩
      · exact g
      · rcases g3 with g3|g3<;>cases g3
     rw[hmd,h00,hwd (wslot l 0) (by unfold wslot;omega),hwd (wslot l 1) (by unfold wslot;omega)];exact (hL.vc y l hy hl').2
 |_=>exact hk.elim
end
section
variable {N L n n1 s q cq d kd i j a b m G M F:Nat} {σ τ υ σ1 σ2 σ4:St} {t t0 t2 u u2:Txn} {c c2:Cal} {r:Res} {k k':K} {ok:Option K} {o:En.Op} {C:Nat→List Nat} {O:Nat→Nat} {y l v w:Nat} {h:Hunt}
theorem beginSt_w (level:Nat) (h0:i≠0) (h1:i≠1+s) (h2:i≠σ.place (σ.made+1)):(beginSt σ s level σ2).word i=σ2.word i:=by
 unfold beginSt;show (((({σ2 with made:=σ.made+1}:St).cas 0 (σ.word 0) (clockW (timeOf (σ.word 0)+1) 0)).put (σ.place (σ.made+1)) (pack 1 0)).put (1+s) (timeOf (σ.word 0)+1)).word i=_;rw[put_word,if_neg (fun e=>h1 e.1),put_word,if_neg (fun e=>h2 e.1)];unfold St.cas
 split
 · rw[put_word,if_neg (fun e=>h0 e.1)];rfl
 · rfl
theorem begin_words (hR:Rs σ) (hi:TI σ) (hw:WF N L n σ) (hs:s<8) {level id:Nat} (hb:beginOk σ s level=some (σ1,id)):(∀ i,i≠0→i≠1+s→i≠σ.place (σ.made+1)→σ1.word i=σ.word i)∧Qt N σ σ1:=by
 unfold beginOk at hb
 split at hb
 · split at hb
   · obtain⟨rfl,-⟩:=Prod.mk.injEq _ _ _ _ ▸ Option.some.inj hb
     exact⟨fun i h0 h1 h2=>beginSt_w level h0 h1 h2,beginSt_qt hs hw.sh.sl (Qt.tick σ) level⟩
   · rename_i hl0
     split at hb
     · obtain⟨rfl,-⟩:=Prod.mk.injEq _ _ _ _ ▸ Option.some.inj hb
       have hck:=hi.ck.1;obtain⟨d1,-,-⟩:=hR.dn (lastOf (σ.word 0)) (by omega) hck;have hh:σ.tick.help (σ.word 0)=σ.tick.tick:=by
        unfold St.help St.cas;rw[if_neg];intro e;unfold stO at d1;rw[show σ.word (σ.place (lastOf (σ.word 0)))=pack 1 0 from e] at d1
        revert d1;decide
       rw[hh];exact⟨fun i h0 h1 h2=>beginSt_w level h0 h1 h2,beginSt_qt hs hw.sh.sl ((Qt.tick σ).trans (Qt.tick _)) level⟩
     · cases hb
 · cases hb
theorem BL.begin_ (hR:Rs σ) (hli:LI N L n σ) (hs:s<8) {level:Nat} (hf:N≤Cw.fr N σ+j) (hb:beginOk σ s level=some (σ1,σ.made+1)) (hmd:σ1.made=σ.made+1) (hca:σ1.calls.getD s none=none) (hx:σ1.txns.getD s none=some (txnOf (σ.made+1) level (timeOf (σ.word 0)+1))) (h0:σ1.word 0=clockW (timeOf (σ.word 0)+1) 0):BL N j s σ1 (txnOf (σ.made+1) level (timeOf (σ.word 0)+1)):=by
 obtain⟨hwd,hq⟩:=begin_words hR hli.ti hli.wf hs hb;obtain⟨C,O,hc,-,-⟩:=hli.wc;have hc1:=hc.quiet hq;have hpl:∀ id,σ.place id=73+N*3+id:=hli.wf.sh.place;have hpl1:∀ id,σ1.place id=σ.place id:=fun id=>by unfold St.place;rw[hq.slots]
 have htm:=hR.tm;have h00:timeOf (σ1.word 0)=timeOf (σ.word 0)+1:=by rw[h0];unfold timeOf clockW;omega
 refine⟨hx,hca,⟨fun i h1 h2 h3=>?_,rfl,fun y l hy hl=>?_,fun y x hx=>(by cases hx),fun r hr=>(by cases hr),fun _=>by rw[h0];unfold lastOf clockW;omega⟩,?_,?_⟩
 · have h3':i≠σ.made+1:=h3
   obtain⟨a,b,c'⟩:=hR.dn i h1 (by omega);unfold stO at a ⊢;rw[hpl1,hwd _ (by rw[hpl];omega) (by rw[hpl];omega) (by rw[hpl,hpl];omega)];exact⟨a,b,by show _≤timeOf (σ.word 0)+1;omega⟩
 · have hl':InC σ y l:=(hc.inC hy).2 ((hc1.inC hy).1 hl)
   have hsl:=(hl'.slot hli.wf hc hy).1;obtain⟨v1,v2⟩:=hR.vc y l hy hl';have hne:∀ i,i<3→σ1.word (wslot l i)=σ.word (wslot l i):=fun i hi3=>hwd _ (by unfold wslot;omega) (by unfold wslot;omega) (by rw[hpl];unfold wslot;omega)
   rw[hne 0 (by omega),hne 1 (by omega),h00,hmd];have T:∀ w,U0 (timeOf (σ.word 0)) σ.made w→T0 (txnOf (σ.made+1) level (timeOf (σ.word 0)+1)) (σ.made+1) w:=fun w h=>by
    rcases h with h|⟨i,e,h1,h2⟩
    · exact .inl (by show _≤timeOf (σ.word 0)+1;omega)
    · exact .inr ⟨i,e,h1,by omega,by show i≠σ.made+1;omega⟩
   have U:∀ w,U0 (timeOf (σ.word 0)) σ.made w→U0 (timeOf (σ.word 0)+1) (σ.made+1) w:=fun w h=>by
    rcases h with h|⟨i,e,h1,h2⟩
    · exact .inl (by omega)
    · exact .inr ⟨i,e,h1,by omega⟩
   exact⟨fun _=>⟨T _ v1,v2.imp (fun x=>x) (T _)⟩,U _ v1,v2.imp (fun x=>x) (U _)⟩
 · show N≤Cw.fr N σ1+j
   have:Cw.fr N σ1=Cw.fr N σ:=by unfold Cw.fr;rw[hq.free,hq.listed]
   rw[this];exact hf
 · unfold Tms
   rw[h00,hmd,if_pos (show (txnOf (σ.made+1) level (timeOf (σ.word 0)+1)).end_=0 from rfl)];omega
theorem first_KL {t':Txn} (hL:LN σ t') (ht:υ.t s=t') (hc:υ.c s=callOf o q) (hc8:s<υ.calls.length) (ho:opOk o=true) (h7:o.kind<7) (e1:υ.free=σ.free) (e2:υ.listed=σ.listed) (e3:υ.slots=σ.slots) (hrm:Room σ):
 KL σ t' o (υ.first s).2∧((υ.first s).1.c s).r.e=0∧(υ.first s).1.txns=υ.txns:=by
 obtain⟨hk,hh,-,-⟩:=opOk_key ho;have hre:(υ.c s).r.e=0:=by rw[hc];rfl
 have hop:(υ.c s).op=o:=by rw[hc];rfl
 unfold St.first;rw[hop,ht];dsimp only
 split
 · split
   · rename_i x hx
     refine⟨?_,hre,rfl⟩
     split
     · show (0:Nat)≠14;omega
     · show (11:Nat)≠14;omega
   · rename_i hx
     exact⟨⟨hk,hx,Nat.le_refl _,fun i l e=>(by cases e)⟩,hre,rfl⟩
 · have main:=scanN_L (s:=s) (o:=o) (e0:=0) ((υ.c s).op.hi+1 - o.key) υ o.key ht hc8 hre (by rw[hop];exact hh) hop
   obtain⟨m1,m2,m3⟩:=main;refine⟨?_,m1,scanN_tx _ _ _ _⟩;unfold St.scan
   rcases m3 with e3|⟨key',e3,e4,e5⟩
   · rw[e3];show ((scanN s _ υ _).1.c s).r.e≠14;rw[m1];omega
   · rw[e3]
     exact⟨by show key'<64;omega,e5,Nat.le_refl _,fun i' l' e=>by cases e⟩
 · exact⟨trivial,hre,rfl⟩
 · omega
 · split
   · rename_i x hx
     split
     · exact⟨by show (12:Nat)≠14;omega,hre,rfl⟩
     · split
       · exact⟨by show (11:Nat)≠14;omega,hre,rfl⟩
       · split
         · obtain⟨l',hsb⟩:=slot_room (s:=s) (υ:=υ) (σ:=σ) e1 e2 e3 hrm true 0
           exact⟨by rw[hsb];trivial,by rw[slot_c];exact hre,slot_tx _ _ _ _ _⟩
         · rename_i hx0
           refine⟨⟨⟨x,hx,hx0⟩,?_⟩,hre,rfl⟩
           split
           · exact .inl rfl
           · exact .inr rfl
   · rename_i hx
     exact⟨⟨hk,hx,Nat.le_refl _,fun i l e=>(by cases e)⟩,hre,rfl⟩
theorem LN.cong (hL:LN σ t) (hwd:∀ i,σ1.word i=σ.word i) (hsl:σ1.slots=σ.slots) (hmd:σ1.made=σ.made) (e1:t2.id=t.id) (e2:t2.begin_=t.begin_) (e3:t2.cells=t.cells) (e4:t2.reads=t.reads) (e5:t2.bonds=t.bonds) (e6:t2.end_=t.end_):LN σ1 t2:=by
 have hpl:∀ id,σ1.place id=σ.place id:=fun id=>by unfold St.place;rw[hsl]
 have hch:∀ (ls:List Nat) (h:Nat),Chain σ h ls→Chain σ1 h ls:=fun ls h hc=>hc.cong (fun l _=>hwd _)
 have hch':∀ (ls:List Nat) (h:Nat),Chain σ1 h ls→Chain σ h ls:=fun ls h hc=>hc.cong (fun l _=>(hwd _).symm)
 have hin:∀ {y l},InC σ y l→InC σ1 y l:=fun {y l} ⟨ls,a,b⟩=>⟨ls,by rw[hwd];exact hch _ _ a,b⟩
 have hin':∀ {y l},InC σ1 y l→InC σ y l:=fun {y l} ⟨ls,a,b⟩=>⟨ls,hch' _ _ (by rw[hwd] at a;exact a),b⟩
 have htl:∀ ls,topL σ1 ls=topL σ ls:=fun ls=>by
  induction ls with
  |nil=>rfl
  |cons x ls ih=>unfold topL;rw[hwd,ih]
 have htp:∀ {x v},TopF σ x v→TopF σ1 x v:=fun {x v} ⟨ls,a,b⟩=>⟨ls,hch _ _ a,by rw[htl];exact b⟩
 have hcell:∀ y,t2.cell y=t.cell y:=fun y=>by unfold Txn.cell;rw[e3]
 refine⟨fun i h1 h2 h3=>?_,e5.trans hL.bo,fun y l hy hl=>?_,fun y x hx=>?_,fun r hr=>?_,fun h=>by rw[hwd];exact hL.la (by rw[←e6];exact h)⟩
 · rw[e1] at h3
   unfold stO;rw[hpl,hwd,e2];exact hL.dn i h1 (by rw[←hmd];exact h2) h3
 · have:=hL.vc y l hy (hin' hl)
   rw[hwd,hwd,hwd,hmd,hcell];unfold T0 at this ⊢;rw[e1,e2];exact this
 · rw[hcell] at hx
   obtain⟨a,b,c⟩:=hL.po y x hx;exact⟨a,fun h=>hin (b h),fun h=>hin (c h)⟩
 · rw[e4] at hr
   obtain⟨a,b⟩:=hL.rd r hr;exact⟨a,fun h=>by rw[hcell] at h;rw[hwd];exact htp (b h)⟩
theorem BL.issue (hB:BL N j s σ t) (hli:LI N L n σ) (hs:s<8) (hj:j<N) (h7:o.kind<7) (p:Isp N L n s σ σ1 o t k σ4 t2 c2):AL N j s σ1 t2 {c2 with k:=some k} k:=by
 have hsl:σ.slots=N:=hli.wf.sh.sl;obtain⟨⟨hw,hs1⟩,hm⟩:=p.ws;have hwd:∀ i,σ1.word i=σ.word i:=fun i=>by unfold St.word;rw[hw]
 obtain⟨i1,i2,i3,i4,i5,i6⟩:=issueT_f o t;have hcr:(issueT o t).cells=t.cells∧(issueT o t).reads=t.reads:=by unfold issueT;split<;>exact⟨rfl,rfl⟩
 have hrm:Room σ:=fr_room hsl (by have:=hB.fr;omega);have hL0:LN σ (issueT o t):=hB.ln.cong (fun _=>rfl) rfl rfl i1 i2 hcr.1 hcr.2 i4 i3;have hpe:(issueSt σ s o t).free=σ.free∧(issueSt σ s o t).listed=σ.listed∧(issueSt σ s o t).slots=σ.slots:=by unfold issueSt;split<;>exact⟨rfl,rfl,rfl⟩
 have hc8:s<(issueSt σ s o t).calls.length:=by
  have:=(issueSt σ s o t).calls.length
  by_cases h8:s<(issueSt σ s o t).calls.length
  · exact h8
  · exfalso
    have:=p.m.ca;rw[List.getD_eq_getElem?_getD,List.getElem?_eq_none (by omega)] at this
    cases this
 obtain⟨f1,f2,f3⟩:=first_KL (υ:=issueSt σ s o t) (q:=σ.seq+1) hL0 p.m.et p.m.ec hc8 p.op h7 hpe.1 hpe.2.1 hpe.2.2 hrm;rw[p.run] at f1 f2 f3;have et2:t2=issueT o t:=by
  have h1:=p.m2.et;rw[←h1,t_of_txns f3];exact p.m.et
 have ec2:σ4.c s=c2:=p.m2.ec;have hop:c2.op=o:=p.tops.2;have hfr:=first_fr (N:=N) (σ:=issueSt σ s o t) (hpe.2.2.trans hsl) s;rw[p.run] at hfr;have hfr1:Cw.fr N σ1=Cw.fr N σ4:=by rw[p.e1];rfl
 have hfr0:Cw.fr N (issueSt σ s o t)=Cw.fr N σ:=by unfold Cw.fr;rw[hpe.1,hpe.2.1]
 have hLN:LN σ1 t2:=by rw[et2];exact hL0.cong hwd hs1 hm rfl rfl rfl rfl rfl rfl
 refine⟨p.tt,p.cc,rfl,hLN,?_,by show c2.r.e=0;rw[←ec2];exact f2,?_,?_,fun h6=>?_,fun h6=>?_⟩
 · show KL σ1 t2 c2.op k
   rw[hop,et2];exact f1.cong hwd hm
 · have:=hB.fr
   simp only at hfr;omega
 · have:=hB.tm
   unfold Tms at this ⊢;rw[hwd,hm,et2,i3];exact this
 · have h6':o.kind≠6:=by rw[←hop];exact h6
   have e0:(issueSt σ s o t).c s=callOf o (σ.seq+1):=p.m.ec;have:=NE.first (σ:=issueSt σ s o t) (s:=s) (by rw[e0];show o.kind<6;omega) (by rw[e0];exact p.op);rw[p.run] at this;exact this
 · have h6':o.kind=6:=by rw[←hop];exact h6
   have:=first_end (σ:=issueSt σ s o t) (s:=s) p.m.ca h6';rw[p.run] at this;exact this
end
section
variable {N L n n1 s q cq d kd i j a b m G M F:Nat} {σ τ υ σ1 σ2 σ4:St} {t t0 t2 u u2:Txn} {c c2:Cal} {r:Res} {k k':K} {ok:Option K} {o:En.Op} {C:Nat→List Nat} {O:Nat→Nat} {y l v w:Nat} {h:Hunt}
def Dn (N j s:Nat) (σ':St) (o:En.Op) (t:Txn) (r:Res):Prop:=
 (o.kind≠6∧r.over=0∧r.e≠14∧∃ t1,t1.ops=t.ops∧BL N (j+1) s σ' t1)∨(o.kind=6∧r.over=3∧σ'.txns.getD s none=none∧Rs σ'∧N≤fr N σ'+(j+1))
theorem EI.aloneDo (hG:2000≤G) (hG9:G<900000) (hs:s<8) (hj:j+1<N):∀ (F:Nat) (σ:St) (M:Nat) (t:Txn) (c:Cal) (k:K),EI N L G M σ→AL N j s σ t c k→2*σ.made<L→σ.mu N s<F→M+F<1000000000000→
 ∃ σ' r,Em.runDo F σ s=some (σ',r,0)∧EI N L G (M+F) σ'∧σ'.made=σ.made∧(∀ q,q≠s→σ'.txns.getD q none=σ.txns.getD q none∧σ'.calls.getD q none=σ.calls.getD q none)∧σ'.calls.getD s none=none∧Dn N j s σ' c.op t r:=by
 intro F
 induction F with
 |zero=>intro σ M t c k _ _ _ h;exact absurd h (Nat.not_lt_zero _)
 |succ F ih=>
  intro σ M t c k h hA hm hmu hM;obtain⟨σ1,kd,r,h1,h2,h3,h4,h5,-⟩:=h.lone hG hG9 (by omega) hs hA.ca hA.tx hA.ln.bo;have hup:∀ σ' M',EI N L G M' σ'→M'≤M+(F+1)→EI N L G (M+(F+1)) σ':=fun σ' M' x hx=>⟨x.li,Nat.le_trans x.ct hx,Nat.le_trans x.lk hx,Nat.le_trans x.sq hx,x.ga,x.cu⟩
  obtain⟨t',c',k0,σ2,ok,t2,c2,p⟩:=h.li.wf.parts hs h1;have e1:=p.ca;rw[hA.ca] at e1;obtain rfl:=Option.some.inj e1;have e2:=p.tx;rw[hA.tx] at e2;obtain rfl:=Option.some.inj e2;have e3:=p.ck;rw[hA.ck] at e3;obtain rfl:=Option.some.inj e3;have hN:σ.slots=N:=h.li.wf.sh.sl;have hfr:=p.fr hN;have htm:=p.tms h.li.ti h.li.wf hA.tm;have hcop:=p.cop;have hAf:=hA.fr
  rcases hA.run1 h.li.ti h.li.wf h.li.wc hs hj hm p with ⟨k',rfl,r1,r2,r3⟩|⟨x,rfl,rfl,r1,r2,r3⟩|⟨x,rfl,rfl,r1,r2,r3⟩
  · obtain⟨g1,g2,g3,g4,-⟩:=p.go k' rfl
    rcases h5 with ⟨rfl,h5,c1,t1,h6,h7,h8⟩|⟨rfl,-,-⟩
    · rw[g4] at h7
      obtain rfl:=Option.some.inj h7;have hfr':Cw.fr N σ+pr k'≤Cw.fr N σ1+pr k:=hfr;have hA1:AL N j s σ1 t2 {c2 with k:=some k'} k':=by
       refine⟨g4,g3,rfl,r1,r2,r3,by omega,htm,fun h6=>?_,fun h6=>?_⟩
       · have hne:=hA.ne (by rw[←hcop];exact h6)
         refine NE.run (σ:=σ.setC s {c with waits:=false}) (s:=s) (k:=k) hne (fun e r=>?_) (by rw[p.run]);rintro rfl;exact KL.abort hA.kl
       · rcases p.ends (hA.ek (by rw[←hcop];exact h6)) with ⟨k'',e,hE⟩|⟨e,-⟩
         · obtain rfl:=Option.some.inj e;exact hE
         · cases e
      obtain⟨σ',r',f1,f2,f3,f4,f5,f6⟩:=ih σ1 (M+1) t2 _ k' h2 hA1 (by omega) (by omega) (by omega);refine⟨σ',r',?_,hup _ _ f2 (by omega),f3.trans h3,fun q hq=>⟨(f4 q hq).1.trans (h4 q hq).1,(f4 q hq).2.trans (h4 q hq).2⟩,f5,?_⟩
      · unfold Em.runDo
        rw[h1];exact f1
      · unfold Dn at f6 ⊢
        rw[←hcop,←h8];exact f6
    · exfalso
      split at g1<;>cases g1
  · obtain⟨g1,g2,g3,g4⟩:=p.no rfl
    subst g1
    rcases h5 with ⟨e,-⟩|⟨-,h5,h6⟩
    · cases e
    · refine⟨σ1,r,?_,hup _ _ h2 (by omega),h3,h4,h5,.inl ?_⟩
      · unfold Em.runDo
        rw[h1];rfl
      · have hov:c2.r.over=0:=by
         have:=p.kok.1;rw[r1];exact this
        have hkind:c.op.kind≠6:=fun h6=>hA.ek h6
        obtain⟨t1,ht1,ho1⟩:=(h6.resolve_right (fun x=>x.1 (by rw[g2];exact hov))).2;have htt:σ1.txns.getD s none=some t2:=by
         rcases g4 with ⟨-,g,-⟩|⟨g,-⟩
         · exact g
         · exact absurd hov g
        rw[htt] at ht1;obtain rfl:=Option.some.inj ht1;refine⟨hkind,by rw[g2];exact hov,by rw[g2,r1];exact r2,t2,ho1,⟨htt,h5,r3,?_,htm⟩⟩;have hfr':Cw.fr N σ+0≤Cw.fr N σ1+0:=hfr;have hAf':N+0≤Cw.fr N σ+j+1:=hAf;omega
  · obtain⟨g1,g2,g3,g4⟩:=p.no rfl
    subst g1
    rcases h5 with ⟨e,-⟩|⟨-,h5,h6⟩
    · cases e
    · refine⟨σ1,r,?_,hup _ _ h2 (by omega),h3,h4,h5,.inr ?_⟩
      · unfold Em.runDo
        rw[h1];rfl
      · have hov:r.over=3:=by rw[g2,r1];exact r2
        have hkind:c.op.kind=6:=by
         by_cases h6:c.op.kind=6
         · exact h6
         · exact (hA.ne h6).elim
        refine⟨hkind,hov,(h6.resolve_left (fun x=>by have:=x.1;omega)).2,r3,?_⟩;have hfr':Cw.fr N σ+0≤Cw.fr N σ1+0:=hfr;have hAf':N+0≤Cw.fr N σ+j+1:=hAf;omega
theorem BL.call (hs:s<8) (hF:20566+174*N<F) (hF9:F≤13824000) (hB:BL N j s σ t) (h:LI N L n σ) (hj:j+1<N) (hm:2*σ.made<L) (hn:n<800000) (hct:σ.count≤M) (hlk:σ.looks≤M) (hsq:σ.seq≤M) (hM:M+(F+1)<1000000000000) (hg:∀ q,q≠s→σ.txns.getD q none=none) (hop:t.ops<12∨opEnds o=true) (ho:opOk o=true) (h7:o.kind<7):
 ∃ σ1 σ2 r t',issueOk σ s o=some σ1∧runDo F σ1 s=some (σ2,r,0)∧LI N L (n+4004) σ2∧σ2.count≤M+(F+1)∧σ2.looks≤M+(F+1)∧σ2.seq≤M+(F+1)∧σ2.made=σ.made∧(∀ q,q≠s→σ2.txns.getD q none=none)∧t'.ops≤t.ops+1∧Dn N j s σ2 o t' r:=by
 obtain⟨σ1,hi,hwf,hc1,hl1,hsq1,hmd,⟨c,hc',hco⟩,hlv,hq,-⟩:=h.wf.issue hs hB.tx hB.ca ho hop (by omega) (by omega);obtain⟨t',k,σ4,t2,c2,p⟩:=h.wf.iparts hs hi;obtain rfl:t'=t:=Option.some.inj (p.tx.symm.trans hB.tx);have hli:=h.issue hs hi hwf;have hgn:∀ q,q≠s→σ1.txns.getD q none=none:=fun q hq'=>(hq q hq').1.trans (hg q hq')
 have hEI:EI N L (n+4004) (M+1) σ1:=hli.toEI1 hs hgn (by omega) (by omega) (by omega);have hPhi:=Phi_le hEI.li.wf hEI.li.wc hEI.li.tl s;have hll:=lm_le hEI.li s;have hmu:σ1.mu N s<F:=by unfold St.mu;split<;>omega
 have hA:=hB.issue h hs (by omega) h7 p;obtain⟨σ2,r,e1,e2,e3,e4,e5,e6⟩:=EI.aloneDo (by omega) (by omega) hs hj F σ1 (M+1) t2 _ k hEI hA (by omega) hmu (by omega);have hops:=p.ops;have hmm:M+1+F=M+(F+1):=by omega
 rw[hmm] at e2;have hcop:({c2 with k:=some k}:Cal).op=o:=p.tops.2;rw[hcop] at e6;exact⟨σ1,σ2,r,t2,hi,e1,e2.li,e2.ct,e2.lk,e2.sq,e3.trans hmd,fun q hq'=>(e4 q hq').1.trans (hgn q hq'),hops,e6⟩
theorem BL.trail (hs:s<8) (hF:20566+174*N<F) (hF9:F≤13824000):∀ (ops:List En.Op) (σ:St) (n M j:Nat) (t:Txn),BL N j s σ t→LI N L n σ→j+ops.length+1<N→2*σ.made<L→n+(ops.length+1)*4004<800000→σ.count≤M→σ.looks≤M→σ.seq≤M→(∀ q,q≠s→σ.txns.getD q none=none)→t.ops+ops.length≤12→(∀ o∈ops,opOk o=true∧o.kind<6)→M+(ops.length+1)*(F+1)<1000000000000→
 ∃ σ' rs r,(∀ acc,wholeLoop F σ s (ops++[⟨6,0,0,0⟩]) acc=some (σ',acc++(rs++[r]),0))∧rs.length=ops.length∧r.over=3∧(∀ x∈rs,x.over=0∧x.e≠14)∧LI N L (n+(ops.length+1)*4004) σ'∧(∀ q,σ'.txns.getD q none=none)∧Rs σ'∧σ'.made=σ.made∧N≤Cw.fr N σ'+(j+ops.length+1)∧σ'.count≤M+(ops.length+1)*(F+1)∧σ'.looks≤M+(ops.length+1)*(F+1)∧σ'.seq≤M+(ops.length+1)*(F+1):=by
 intro ops
 induction ops with
 |nil=>
  intro σ n M j t hB h hj hm hn hct hlk hsq hgn hop hok hM;simp only[List.length_nil,Nat.zero_add,Nat.one_mul,Nat.add_zero] at hM hn hj ⊢;obtain⟨σ1,σ2,r,t',hi,e1,e2,e3,e4,e5,e6,e7,-,e9⟩:=hB.call hs hF hF9 (o:=⟨6,0,0,0⟩) h hj hm (by omega) hct hlk hsq hM hgn (.inr (by decide)) (by decide) (by decide);obtain⟨-,hov,hg,hR,hf⟩:=e9.resolve_left (fun x=>x.1 rfl);refine⟨σ2,[],r,fun acc=>?_,rfl,hov,fun x hx=>(by cases hx),e2,fun q=>?_,hR,e6,hf,e3,e4,e5⟩
  · show wholeLoop F σ s [⟨6,0,0,0⟩] acc=_
    unfold wholeLoop;rw[hi];simp only[e1];rw[if_neg (by simp),if_pos (by omega)];rfl
  · by_cases e:q=s
    · rw[e];exact hg
    · exact e7 q e
 |cons o ops ih=>
  intro σ n M j t hB h hj hm hn hct hlk hsq hgn hop hok hM;rw[List.length_cons] at hop hM hn hj;rw[Nat.succ_mul] at hM hn;obtain⟨hoo,ho6⟩:=hok o List.mem_cons_self;obtain⟨σ1,σ2,r,t',hi,e1,e2,e3,e4,e5,e6,e7,e8,e9⟩:=hB.call hs hF hF9 (o:=o) h (by omega) hm (by omega) hct hlk hsq (by omega) hgn (.inl (by omega)) hoo (by omega);obtain⟨-,hov,he,t3,ht3,hB3⟩:=e9.resolve_right (fun x=>by have:=x.1;omega);obtain⟨σ',rs,r',f1,f2,f3,f4,f5,f6,f7,f8,f9,f10,f11,f12⟩:=ih σ2 (n+4004) (M+(F+1)) (j+1) t3 hB3 e2 (by omega) (by omega) (by omega) e3 e4 e5 e7 (by omega) (fun o' ho'=>hok o' (List.mem_cons_of_mem _ ho')) (by omega);refine⟨σ',r::rs,r',fun acc=>?_,by rw[List.length_cons,List.length_cons,f2],f3,fun x hx=>?_,?_,f6,f7,f8.trans e6,by rw[List.length_cons];omega,?_,?_,?_⟩
  · show wholeLoop F σ s (o::(ops++[⟨6,0,0,0⟩])) acc=_
    unfold wholeLoop;rw[hi];simp only[e1];rw[if_neg (by simp),if_neg (by simp[hov]),f1];simp
  · rcases List.mem_cons.1 hx with rfl|hx
    · exact⟨hov,he⟩
    · exact f4 x hx
  · rw[List.length_cons,Nat.succ_mul (ops.length+1),show n+((ops.length+1)*4004+4004)=n+4004+(ops.length+1)*4004 by omega];exact f5
  · rw[List.length_cons,Nat.succ_mul (ops.length+1)];omega
  · rw[List.length_cons,Nat.succ_mul (ops.length+1)];omega
  · rw[List.length_cons,Nat.succ_mul (ops.length+1)];omega
structure AI (i:Nat) (σ:St):Prop where
 li:LI 200 1000 (i*40000) σ
 rs:Rs σ
 tx:∀ q,σ.txns.getD q none=none
 md:σ.made=i
 fr:200≤fr 200 σ+i*9
 ct:σ.count≤i*130000000
 lk:σ.looks≤i*130000000
 sq:σ.seq≤i*130000000
theorem AI.new:AI 0 (En.new 200 1000):=by
 have htx:∀ q,(En.new 200 1000).txns.getD q none=none:=by
  intro q;show (List.replicate 8 (none:Option Txn)).getD q none=none;rw[List.getD_eq_getElem?_getD,List.getElem?_replicate]
  split<;>rfl
 have hwd:∀ i,(En.new 200 1000).word i=0:=fun i=>by
  unfold St.word;show (List.replicate _ 0).getD i 0=0;rw[List.getD_eq_getElem?_getD,List.getElem?_replicate]
  split<;>rfl
 refine⟨LI.new (by omega) (by omega),⟨fun i h1 h2=>?_,fun y l hy hl=>?_,?_⟩,htx,rfl,?_,Nat.zero_le _,Nat.zero_le _,Nat.zero_le _⟩
 · have:i≤0:=h2
   omega
 · exfalso
   obtain⟨ls,h1,h2⟩:=hl;rw[hwd] at h1
   cases ls with
   |nil=>cases h2
   |cons x ls=>obtain⟨e,e2,-⟩:=h1;exact e2 e.symm
 · rw[hwd];exact Nat.zero_le _
 · show 200≤0+200+0*9
   omega
theorem AI.calls (h:AI i σ) (q:Nat):σ.calls.getD q none=none:=by
 cases e:σ.calls.getD q none with
 |none=>rfl
 |some c=>
  obtain⟨t,ht,-⟩:=h.li.wf.cx q c e;rw[h.tx q] at ht;cases ht
theorem AI.whole (h:AI i σ) (h8:i<8) {level:Nat} (h1:1≤level) (h3:level≤3) {ops:List En.Op} (hl:ops.length≤8) (hok:∀ o∈ops,opOk o=true∧o.kind<6):
 ∃ σ' rs r,runWhole 13824000 σ i level ops=some (σ',rs++[r],0)∧rs.length=ops.length∧r.over=3∧(∀ x∈rs,x.over=0∧x.e≠14)∧AI (i+1) σ':=by
 have htm:=h.rs.tm;have hmd:=h.md;have hct:=h.ct;have hlk:=h.lk;have hsq:=h.sq;have hfr:=h.fr;obtain⟨σ1,hb,hwf,hc1,hc2,hlk1,hsq1,hmd1,hca,ht,hq,h0⟩:=h.li.wf.begin_ (s:=i) h8 (h.tx i) h1 h3 (by omega) (by rw[h.li.wf.sh.lm];omega) (by omega) (by omega);have hli:LI 200 1000 (i*40000+1) σ1:=h.li.begin_ h8 hb hwf hq hca ht (h.calls i);have hB:BL 200 (i*9) i σ1 _:=BL.begin_ h.rs h.li h8 hfr hb hmd1 (by rw[hca];exact h.calls i) ht h0;have hgn:∀ q,q≠i→σ1.txns.getD q none=none:=fun q hq'=>(hq q hq').trans (h.tx q)
 have hmul:(ops.length+1)*(13824000+1)≤9*(13824000+1):=Nat.mul_le_mul_right _ (by omega);have g9:∀ x,x≤i*130000000+5+(ops.length+1)*(13824000+1)→x≤(i+1)*130000000:=fun x hx=>by omega
 obtain⟨σ',rs,r,f1,f2,f3,f4,f5,f6,f7,f8,f9,f10,f11,f12⟩:=BL.trail (s:=i) (F:=13824000) h8 (by omega) (Nat.le_refl _) ops σ1 (i*40000+1) (i*130000000+5) (i*9) _ hB hli (by omega) (by omega) (by omega) (by omega) (by omega) (by omega) hgn (show 0+ops.length≤12 by omega) hok (by omega);have g1:i*40000+1+(ops.length+1)*4004≤(i+1)*40000:=by clear f10 f11 f12 f1 hmul g9;omega
 have g2:σ'.made=i+1:=by clear f10 f11 f12 f1 hmul g9;omega
 have g3:200≤Cw.fr 200 σ'+(i+1)*9:=by clear f10 f11 f12 f1 hmul g9;omega
 refine⟨σ',rs,r,?_,f2,f3,f4,⟨LI.mono f5 g1,f7,f6,g2,g3,?_,?_,?_⟩⟩;rotate_left
 · exact g9 _ f10
 · exact g9 _ f11
 · exact g9 _ f12
 unfold runWhole;rw[hb];have:=f1 [];rw[List.nil_append] at this;exact this
theorem AI.live (h:AI i σ):σ.live.length=0:=live_nil.2 fun q _=>h.tx q
end
end Go.Proofs.YtpkenfnmkpmapaaGreat.Em.Cw
namespace Go.Proofs.YtpkenfnmkpmapaaGreat.Em
open Go.ChangeShapes Go.WideShapes Go.ChangeAt Go.RowKit En
set_option linter.unusedVariables false
set_option linter.unusedSimpArgs false
set_option maxRecDepth 100000
set_option maxHeartbeats 1600000
structure OI where
 k:Int
 key:Int
 hi:Int
 v:Int
def OI.cs (o:OI):List Value:=[zi o.k,zi o.key,zi o.hi,zi o.v]
theorem whole_ktr {b:Nat} {w0 w:World} {ks:List Kept} {σ σ':St} (h:EKt b w0 ks σ w) {s level F err:Nat} {ops:List En.Op} {rs:List Res} {a:Option Addr} {n c:Nat} (hs:s<8) (hF:F≤13824000) (hr:runWhole F σ s level ops=some (σ',rs,err)) (hm:Kept.row 4 (.slice a n c) (opsCs ops)∈ks) (hn:n≤1000) (hrs:0<rs.length):
 Calls Tryz.prog 22 #[.pointer (some ⟨b,0,none⟩),zi (s:Int),zi (level:Int),.slice a n c] w (WKt b w0 ks σ' rs err):=by
 obtain⟨A,rfl,hL,g,t⟩:=h.ex;have hf:FRow A.L w 4 (.slice a n c) (opsCs ops):=by
  clear h
  induction ks with
  |nil=>cases hm
  |cons k ks ih=>
   rcases List.mem_cons.1 hm with e|e
   · subst e;exact t.1
   · exact ih e t.2
 refine (whole_any hL s hs level ops a n c hf (by omega) F hF σ' rs err hr).mono ?_;rintro e w' ⟨A',vo,cs,rfl,p1,p2,p3,p4,p5⟩;obtain⟨⟨a,m,cap,rfl,hlen,_,_,h5⟩,_⟩:=p1;obtain⟨q1,q2⟩:=resRow_get rs cs p2;obtain rfl:m=rs.length:=by omega
 rcases h5 with h5|⟨rb,ro,rfl,_,_,hc⟩
 · exact absurd h5 (by omega)
 · refine⟨rb,ro,cap,rfl,⟨A',p5,p3,g.trans p4,Kepts.grow p4 t⟩,fun k r hk=>?_⟩
   obtain⟨z0,z1,z3,z4⟩:=q2 k r hk;have hcc:∀ j v,cs[j]? =some v→w'.cell? ⟨rb,ro+j,none⟩=some v:=fun j v hj=>by
    have hj':j<cs.length:=by
     rcases Nat.lt_or_ge j cs.length with h|h
     · exact h
     · rw[List.getElem?_eq_none h] at hj;cases hj
    exact (hc j (by omega)).trans hj
   exact⟨hcc _ _ z0,hcc _ _ z1,hcc _ _ z3,hcc _ _ z4⟩
def OpsIn (w:World) (a1:Option Addr) (i:Nat):Prop:=∃ g off,a1=some ⟨g,off,none⟩∧∃ (b:Option Addr) (cap:Nat) (es:List OI),es.length≤9223372036854775807∧(∀ w',Below w.heap.size w w'→w'.cell? ⟨g,off+i,none⟩=some (.slice b es.length cap))∧∀ k e,es[k]? =some e→∃ g2 off2,b=some ⟨g2,off2,none⟩∧∀ w',Below w.heap.size w w'→∀ f u,f<4→e.cs[f]? =some u→w'.cell? ⟨g2,off2+(k*4+f),none⟩=some u
theorem cell_lt {w:World} {p:Addr} {v:Value} (h:w.cell? p=some v):p.block<w.heap.size:=by
 rcases Nat.lt_or_ge p.block w.heap.size with h1|h1
 · exact h1
 · exfalso;simp[World.cell?,Array.getElem?_eq_none h1] at h
set_option maxHeartbeats 16000000 in
theorem ra_any (a0:Option Addr) (n0 c0:Nat) (a1:Option Addr) (n1 c1:Nat) (w:World) (h0:n0≤9223372036854775807) (h1:n1≤9223372036854775807)
 (H0:∀ i,i<n0→∃ g off,a0=some ⟨g,off,none⟩∧∃ z:Int,∀ w',Below w.heap.size w w'→w'.cell? ⟨g,off+i,none⟩=some (zi z)) (H1:∀ i,i<n1→OpsIn w a1 i):
 Calls Tryz.prog 5 #[.slice a0 n0 c0,.slice a1 n1 c1] w fun e w'=>e=.returned (.bool true)∧Below w.heap.size w w':=by
 obtain⟨ii,hii,hz0,hz1,hz2⟩:=info_parts infoO;have HH0:=zH H0;have HH1:=zH H1;have HL:=zH (zA h0 h1);have HII:=zH (zA hii (zA hz0 (zA hz1 hz2)));have HN:=zH (new_at 200 1000 (by omega) (by omega) (by omega) (by omega) w);have HA:=zH awake24;clear H0 H1 h0 h1 hii hz0 hz1 hz2;go_enter Tryz.func5,Tryz.ntmps5;go_wp2_with (go_at_call 20;refine (HN.out).mono ?_;rintro e w1 ⟨be,rfl,q⟩;have T0:=zH q;clear q);clear HN
 go_loopw [7] (fun i wr=>∃ (m:Nat) (σ:St),i=zi (m:Int)∧m≤n1∧m≤8∧Cw.AI m σ∧EKt be w [] σ wr) (fun i _=>8 - (intOf i).toNat)
 case atStart=>
  obtain⟨A,e,l,g⟩:=T0.out.ex;exact⟨0,_,rfl,Nat.zero_le _,Nat.zero_le _,Cw.AI.new,⟨A,e,l,g,trivial⟩⟩
 case round=>
  obtain⟨m,σ,rfl,hm,hm8,hAI,hE⟩:=hrel;clear T0
  by_cases hlt:m<n1∧m<8
  · obtain⟨hl1,hl2⟩:=hlt
    obtain⟨g,off,rfl,b,cap,es,hes,hc9,hrow⟩:=HH1.out m hl1;have i1:(m:Int)<(n1:Int):=by omega
    have i2:(m:Int)<8:=by omega
    have i0:(0:Int)≤(m:Int):=by omega
    have nm:IntKind.i64.wrap ((m:Int)+1)=(m:Int)+1:=by rw[IntKind.wrap_i64];omega
    have HE:=zH (zA hAI (zA hE hm));have HR:=zH (zA hes (zA hc9 hrow));have HM:=zH (zA hl1 hl2);clear hAI hE hm hes hc9 hrow hm8 hl1 hl2;have hlv:((m:Int)<(n0:Int))=False∨(((m:Int)<(n0:Int))=True∧m<n0):=by
     by_cases h:m<n0
     · exact .inr ⟨by simp;omega,h⟩
     · exact .inl (by simp;omega)
    obtain⟨wo,rfl⟩:∃ wo:World,wo=wr:=⟨_,rfl⟩
    obtain⟨z8,HLV,HZ⟩:∃ z8:Int,Hid (∃ lv:Nat,z8=(lv:Int)∧1≤lv∧lv≤3)∧((((m:Int)<(n0:Int))=False∧z8=1)∨(((m:Int)<(n0:Int))=True∧∃ g0 off0,a0=some ⟨g0,off0,none⟩∧∃ z c,wo.cell? ⟨g0,off0+m,none⟩=some (zi z)∧(bits .and .i64 z 255).tmod 3=c∧IntKind.i64.wrap (c+1)=z8)):=by
     rcases hlv with k0|⟨k0,k1⟩
     · exact⟨1,⟨1,rfl,by omega,by omega⟩,.inl ⟨k0,rfl⟩⟩
     · obtain⟨g0,off0,rfl,z,hz⟩:=HH0.out m k1
       have cz:=hz wo HE.out.2.1.toBelow;obtain⟨c,hc,hcs⟩:=mask_to z 3 (by decide);exact⟨(c:Int)+1,⟨c+1,by omega,by omega,by omega⟩,.inr ⟨k0,g0,off0,rfl,z,c,cz,hcs,by rw[IntKind.wrap_i64];omega⟩⟩
    clear hlv
    rcases HZ with ⟨k0,rfl⟩|⟨k0,g0,off0,rfl,z,c,cz,hcs,hz8⟩
    all_goals (
     go_upto_region 12 with fail
     try clear cz hcs hz8
     go_loopw [9,10] (fun v i wr2=>∃ (k:Nat) (os:List En.Op),i=zi (k:Int)∧k≤es.length∧os.length≤8∧(∀ o∈os,opOk o=true∧o.kind<6)∧wr2.ownsRow wo.heap.size 29 4 v os.length (opsCs os)∧Below wo.heap.size wo wr2) (fun _ i _=>es.length - (intOf i).toNat)
     case atStart=>exact⟨0,[],rfl,Nat.zero_le _,Nat.zero_le _,(by intro o ho;cases ho),World.ownsRow_nil _ _ _ _,Below.refl _ _⟩
     case round=>
      obtain⟨k,os,rfl,hk,hos,hok,hown,hbel⟩:=hrel
      obtain⟨a2,cap2,rfl,hn2,hm2',_⟩:=Ow.own_form hown
      have hbw:Below w.heap.size w wo:=HE.out.2.1.toBelow
      have hb3:Below w.heap.size w wr:=hbw.trans (hbel.mono hbw.size)
      have c9:=HR.out.2.1 wr hb3
      have HB3:=zH hb3
      clear hb3 hbw
      by_cases hlt:k<es.length∧os.length<8
      · obtain⟨hl1,hl2⟩:=hlt
        have nk:IntKind.i64.wrap ((k:Int)+1)=(k:Int)+1:=by rw[IntKind.wrap_i64];have:=HR.out.1;omega
        obtain⟨e,he⟩:∃ e,es[k]? =some e:=⟨es[k]'hl1,List.getElem?_eq_getElem _⟩
        obtain⟨g2,off2,rfl,hr⟩:=HR.out.2.2 k e he
        have hr2:=hr wr HB3.out
        obtain⟨kd,key,hi,v⟩:=e
        have d0:=hr2 0 (zi kd) (by omega) rfl
        have d1:=hr2 1 (zi key) (by omega) rfl
        have d2:=hr2 2 (zi hi) (by omega) rfl
        have d3:=hr2 3 (zi v) (by omega) rfl
        simp only[Nat.add_zero,←Nat.add_assoc] at d0 d1 d2 d3
        have j0:(0:Int)≤(k:Int):=by omega
        have j1:(k:Int)<(es.length:Int):=by omega
        have j2:(os.length:Int)<8:=by omega
        have HOK:Hid (∀ w',Calls Tryz.prog 21 #[.agg #[zi kd,zi key,zi hi,zi v]] w' fun e w2=>e=.returned (.bool (opI kd key hi v))∧Below w'.heap.size w' w2):=fun w'=>refOpOk_any kd key hi v w'
        have HOW:=zH (zA hown (zA hbel (zA hok hos)))
        have HK:Hid (k+1≤es.length∧os.length+1≤8):=⟨by omega,by omega⟩
        clear hr hr2 he hown hbel hok hos hm2' hk hl1 hl2 hn2
        by_cases hb:opI kd key hi v=true∧kd<6
        · obtain⟨hb1,hb6⟩:=hb
          rw[hb1] at HOK
          obtain⟨o,rfl,rfl,rfl,rfl,ho⟩:=opI_of hb1
          have HO:=zH (zA ho (show o.kind<6 by omega))
          clear hb1 ho
          go_wp2_with (first
            |(go_at_call 21;refine (HOK.out _).mono ?_;rintro e w4 ⟨rfl,hb4⟩;have c10:=HR.out.2.1 w4 (HB3.out.trans (hb4.mono HB3.out.size));have g0:=(Below.cell hb4 (p:=⟨g2,off2+k*4,none⟩) (cell_lt d0)).trans d0;have g1:=(Below.cell hb4 (p:=⟨g2,off2+k*4+1,none⟩) (cell_lt d1)).trans d1;have g2':=(Below.cell hb4 (p:=⟨g2,off2+k*4+2,none⟩) (cell_lt d2)).trans d2;have g3:=(Below.cell hb4 (p:=⟨g2,off2+k*4+3,none⟩) (cell_lt d3)).trans d3;have HB4:=zH hb4;clear hb4)
            |(at_builtin;refine Ow.wpList_append_row _ rfl (.tmp 79) (.tmp 87) 41 rfl wo.heap.size 29 ii _ 4 32 Tryz.underlying41 HII.out.1 HII.out.2.1 HII.out.2.2.1 HII.out.2.2.2 rfl (by decide) (.slice a2 os.length cap2) os.length (opsCs os) rfl (Ow.own_below HOW.out.1 ?b1) 0 (.slice _ 1 1) [zi (o.kind:Int),zi (o.key:Int),zi (o.hi:Int),zi (o.value:Int)] rfl ?b4 1 rfl ?b5 ?b2 ?b6 ?b3 ?_))
          case b1=>(repeat (first|exact Below.refl _ _|exact HB4.out|refine Below.alloc ?_ (by first|(simp;done)|exact HB4.out.size) _))
          case b2=>(have:=HOW.out.2.2.2;unfold maxLen;omega)
          case b6=>(have:=HOW.out.2.2.2;omega)
          case b3=>(refine Nat.le_trans HOW.out.2.1.size (Nat.le_trans HB4.out.size ?_);simp)
          case b5=>(intro u hu;simp at hu;rcases hu with rfl|rfl|rfl|rfl<;>rfl)
          case b4=>exact row_new' _ _ _ 1 4 _ (by simp) rfl (by decide)
          intro v' w6 q1 q2
          go_wp2_with fail
          go_roundw
          case rel=>
           have hkk:=HK.out
           have hbb:Below wr.heap.size wr (w4.alloc (.cells #[zi (o.kind:Int),zi (o.key:Int),zi (o.hi:Int),zi (o.value:Int)] 29)):=Below.alloc HB4.out HB4.out.size _
           refine⟨k+1,os++[o],rfl,hkk.1,by rw[List.length_append];exact hkk.2,fun o' ho'=>?_,?_,?_⟩
           · rcases List.mem_append.1 ho' with h|h
             · exact HOW.out.2.2.1 o' h
             · rw[List.mem_singleton.1 h];exact HO.out
           · rw[opsCs_append,List.length_append];exact q1
           · exact Ow.grown_below (Ow.own_below HOW.out.1 hbb) (Ow.below_base HOW.out.2.1 hbb) (Nat.le_trans HOW.out.2.1.size hbb.size) q2
          case measure=>(have:=HK.out;simp[intOf];omega)
        · have HNB:=zH hb
          clear hb
          by_cases hb1:opI kd key hi v=true
          · have hb6:(kd<6)=False:=by simp;have:¬ kd<6:=fun x=>HNB.out ⟨hb1,x⟩;omega
            rw[hb1] at HOK
            clear hb1
            go_wp2_with (go_at_call 21;refine (HOK.out _).mono ?_;rintro e w4 ⟨rfl,hb4⟩;have c10:=HR.out.2.1 w4 (HB3.out.trans (hb4.mono HB3.out.size));have g0:=(Below.cell hb4 (p:=⟨g2,off2+k*4,none⟩) (cell_lt d0)).trans d0;have HB4:=zH hb4;clear hb4)
            go_roundw
            case rel=>exact⟨k+1,os,rfl,HK.out.1,HOW.out.2.2.2,HOW.out.2.2.1,Ow.own_below HOW.out.1 HB4.out,Ow.below_base HOW.out.2.1 HB4.out⟩
            case measure=>(have:=HK.out;simp[intOf];omega)
          · have hb2:opI kd key hi v=false:=by simpa using hb1
            rw[hb2] at HOK
            clear hb1 hb2
            go_wp2_with (go_at_call 21;refine (HOK.out _).mono ?_;rintro e w4 ⟨rfl,hb4⟩;have HB4:=zH hb4;clear hb4)
            go_roundw
            case rel=>exact⟨k+1,os,rfl,HK.out.1,HOW.out.2.2.2,HOW.out.2.2.1,Ow.own_below HOW.out.1 HB4.out,Ow.below_base HOW.out.2.1 HB4.out⟩
            case measure=>(have:=HK.out;simp[intOf];omega)
      · have HK:Hid (os.length≤8):=hos
        have hx:((k:Int)<(es.length:Int))=False∨(((k:Int)<(es.length:Int))=True∧((os.length:Int)<8)=False):=by
         by_cases h:k<es.length
         · exact .inr ⟨by simp;omega,by have:¬ os.length<8:=fun x=>hlt ⟨h,x⟩;simp;omega⟩
         · exact .inl (by simp;omega)
        have hE2:EKt be w [.row 4 (.slice a2 os.length cap2) (opsCs os)] σ wr:=HE.out.2.1.own hbel hown
        have nl:IntKind.i64.wrap ((os.length:Int)+1)=(os.length:Int)+1:=by rw[IntKind.wrap_i64];omega
        have HW:Hid (∀ z:Int,(∃ lv:Nat,z=(lv:Int)∧1≤lv∧lv≤3)→Calls Tryz.prog 22 #[.pointer (some ⟨be,0,none⟩),zi (m:Int),zi z,.slice a2 os.length cap2] wr fun e w'=>∃ rb ro rc σ' n5,e=.returned (.tuple #[.slice (some ⟨rb,ro,none⟩) n5 rc,zi 0])∧n5=os.length+1∧EKt be w [] σ' w'∧Cw.AI (m+1) σ'∧w'.cell? ⟨rb,ro+os.length*5+3,none⟩=some (zi 3)∧∀ i,i<os.length→∃ ee:Nat,w'.cell? ⟨rb,ro+i*5+3,none⟩=some (zi 0)∧w'.cell? ⟨rb,ro+i*5,none⟩=some (zi (ee:Int))∧ee≠14):=by
         rintro z ⟨lv,rfl,l1,l3⟩
         obtain⟨σ',rs,r,x1,x2,x3,x4,x5⟩:=HE.out.1.whole HM.out.2 l1 l3 (ops:=os) HK.out hok
         refine (whole_ktr hE2 (s:=m) (level:=lv) HM.out.2 (Nat.le_refl 13824000) x1 List.mem_cons_self (by have:=HK.out;omega) (by rw[List.length_append];exact Nat.succ_pos _)).mono ?_
         rintro e w' ⟨rb,ro,rc,rfl,y1,y2⟩
         refine⟨rb,ro,rc,σ',_,rfl,by rw[List.length_append,x2];rfl,y1.tail,x5,?_,fun i hi=>?_⟩
         · have:=(y2 os.length r (by rw[←x2];simp)).2.2.1
           rw[x3,Nat.mul_comm] at this
           exact this
         · have hi':i<rs.length:=by omega
           obtain⟨q0,-,q3,-⟩:=y2 i rs[i] (by rw[List.getElem?_append_left hi',List.getElem?_eq_getElem hi'])
           obtain⟨v1,v2⟩:=x4 rs[i] (List.getElem_mem hi')
           rw[v1,Nat.mul_comm] at q3
           rw[Nat.mul_comm] at q0
           exact⟨rs[i].e,q3,q0,v2⟩
        clear hlt hos hok hown hbel hE2 hm2' hk hn2
        rcases hx with k1|⟨k1,k2⟩
        all_goals (
         go_upto_region 17 with (go_at_call 22;refine (HW.out _ HLV.out).mono ?_;rintro e w5 ⟨rb,ro,rc,σ',n5,rfl,y0,y1,y2,y4,y5⟩;have HY:=zH (zA y1 (zA y2 y5));have z0:(0:Int)≤(os.length:Int):=(by omega);have z1:(os.length:Int)<(n5:Int):=(by omega);have b1:((n5:Int)=(os.length:Int)+1)=True:=(by simp;omega);have b2:((n5:Int)==(os.length:Int)+1)=true:=(by simp;omega);have b3:((n5:Int) !=(os.length:Int)+1)=false:=(by simp;omega);clear y0 y1 y2 y5)
         go_upto_region 20 with fail
         clear b1 b2 b3 y4
         go_loopw [13] (fun i wr3=>∃ j:Nat,i=zi (j:Int)∧j≤os.length∧wr3=w5) (fun i _=>os.length - (intOf i).toNat)
         case atStart=>exact⟨0,rfl,Nat.zero_le _,rfl⟩
         case round=>
          obtain⟨j,rfl,hj,rfl⟩:=hrel
          by_cases hjl:j<os.length
          · obtain⟨ee,q3,q0,q14⟩:=HY.out.2.2 j hjl
            have nj:IntKind.i64.wrap ((j:Int)+1)=(j:Int)+1:=by rw[IntKind.wrap_i64];have:=HK.out;omega
            have jj0:(0:Int)≤(j:Int):=by omega
            have jj1:(j:Int)<(os.length:Int):=by omega
            have jj2:(j:Int)<(n5:Int):=by omega
            have p1:((ee:Int)=14)=False:=by simp;omega
            have p2:((ee:Int)==14)=false:=by simp;omega
            have HJ:Hid (j+1≤os.length):=hjl
            clear hj hjl q14
            go_wp2_with fail
            go_roundw
            case rel=>exact⟨j+1,rfl,HJ.out,trivial⟩
            case measure=>(have:=HJ.out;simp[intOf];omega)
          · have jj1:((j:Int)<(os.length:Int))=False:=by simp;omega
            clear hj hjl
            go_wp2_with fail
            go_roundw
            case rel=>exact⟨m+1,_,rfl,HM.out.1,HM.out.2,HY.out.2.1,HY.out.1⟩
            case measure=>(have:=HM.out;simp[intOf];omega)))
  · have hx:((m:Int)<(n1:Int))=False∨(((m:Int)<(n1:Int))=True∧((m:Int)<8)=False):=by
     by_cases h:m<n1
     · exact .inr ⟨by simp;omega,by have:¬ m<8:=fun x=>hlt ⟨h,x⟩;simp;omega⟩
     · exact .inl (by simp;omega)
    have e0:(σ.live.length:Int)=0:=by have:=hAI.live;omega
    have HLI:=zH (live_kt hE);clear hlt hm hm8 hAI hE
    rcases hx with k1|⟨k1,k2⟩
    all_goals (
     go_wp2_with (first
       |(go_at_call 19;refine HLI.out.mono ?_;rintro e w3 ⟨av,capl,rfl,q⟩;have HQ:=zH q;clear q)
       |(go_at_call 23;refine (HA.out _).mono ?_;rintro e w4 ⟨rfl,hb⟩;have HB:=zH hb;clear hb))
     go_ret
     exact⟨rfl,HQ.out.toBelow.trans (HB.out.mono HQ.out.toBelow.size)⟩)
end Go.Proofs.YtpkenfnmkpmapaaGreat.Em
namespace Go.Proofs.YtpkenfnmkpmapaaGreat.Em
open Go.ChangeShapes Go.WideShapes Go.ChangeAt Go.RowKit Go.Deep
set_option linter.unusedVariables false
set_option linter.unusedSimpArgs false
set_option maxRecDepth 100000
set_option maxHeartbeats 1600000
section
variable {H:Type} {enc:TypeId×Value→H} {w:World} {base:Nat} {spare:Nat→Bool} {held:Bool}
theorem plain_add {ad:Addr} {v:Value} (h:w.cell? (ad.add 0)=some v):∃ b off,ad=⟨b,off,none⟩∧∀ i,ad.add i=⟨b,off+i,none⟩:=by
 obtain⟨b,off,spot⟩:=ad;have hspot:spot=none:=by simpa [Addr.add] using World.cell?_spot h
 subst hspot;refine⟨b,off,rfl,fun i=>?_⟩;unfold Addr.add;split
 · rename_i h;subst h;rfl
 · rfl
theorem keep_cell {w':World} (hb:Below w.heap.size w w') {p:Addr} {v:Value} (h:w.cell? p=some v):w'.cell? p=some v:=(hb.cell (p:=p) (cell_lt h)).trans h
theorem open_opsrow {fuel:Nat} {v:Value} {x:DataW H×List MemPlace} (h:DataW.trod enc Tryz.prog w base spare held fuel 41 [v]=some x):
 ∃ (b:Option Addr) (cap:Nat) (es:List OI),v=.slice b es.length cap∧es.length≤9223372036854775807∧∀ k e,es[k]? =some e→∃ g2 off2,b=some ⟨g2,off2,none⟩∧∀ w',Below w.heap.size w w'→∀ f u,f<4→e.cs[f]? =some u→w'.cell? ⟨g2,off2+(k*4+f),none⟩=some u:=by
 have hc4:Tryz.prog.cellsOf 29=4:=by kernel_rfl
 rcases open_slice Tryz.underlying41 h with ⟨h0,_⟩|⟨ad,len,cap,m,n,D,Pl,hcs,hb,hl,hm,hmm,_,hi⟩
 · simp at h0
   subst h0;exact⟨none,0,[],rfl,Nat.zero_le _,fun k e hk=>(by simp at hk)⟩
 · simp at hcs
   subst hcs;have hle:len≤m:=by rw[hmm];split<;>omega
   unfold maxLen at hm;have hex:∀ i,∃ e:OI,i<len→(∀ j,j<4→w.cell? (ad.add (i*4+j))=e.cs[j]?):=by
    intro i
    by_cases hil:i<len
    · obtain⟨cs',hcells,htr⟩:=hi i (by omega)
      rw[hc4] at hcells;obtain⟨_,hlen,hat⟩:=World.cells?_some hcells
      match cs',hlen,hcells,htr,hat with
      |[c0,c1,c2,c3],_,hcells,htr,hat=>
       obtain⟨a0,a1,a2,a3,rfl,rfl,rfl,rfl,_⟩:=trod_op htr;refine⟨⟨a0,a1,a2,a3⟩,fun _ j hj=>?_⟩;rw[←add_add];exact hat j hj
    · exact⟨⟨0,0,0,0⟩,fun h=>absurd h hil⟩
   obtain⟨f,hf'⟩:=Classical.axiomOfChoice hex;refine⟨some ad,cap,(List.range len).map f,by simp,by simp;omega,fun k e hk=>?_⟩;have hkl:k<len:=by have:=(List.getElem?_eq_some_iff.1 hk).1;simpa using this
   obtain rfl:e=f k:=by simp[hkl] at hk;exact hk.symm
   obtain⟨b,off,rfl,hadd⟩:=plain_add ((hf' 0 (by omega)) 0 (by omega):w.cell? (ad.add 0)=some (zi (f 0).k));refine⟨b,off,rfl,fun w' hbw j u hj hu=>keep_cell hbw ?_⟩;rw[←hadd,hf' k hkl j hj,hu]
theorem open_ops2 {r:Reach} {b0:Nat} {v:Value} {d:DataW H} {p:List MemPlace} (hv:Value.okWide Tryz.prog w r b0 53 v) (h:DataW.Trod enc Tryz.prog w base spare held 53 v d p):
 ∃ a n c,v=.slice a n c∧n≤9223372036854775807∧∀ i,i<n→OpsIn w a i:=by
 obtain⟨a,len,cap,rfl⟩:=okWide_slice Tryz.underlying53 hv;obtain⟨fuel,hf⟩:=h
 rcases open_slice1 Tryz.underlying53 (by kernel_rfl) hf with ⟨h0,_⟩|⟨ad,len',cap',m,n,V,D,Pl,hcs,hb,hl,hm,hmm,_,hi⟩
 · simp[Value.cells] at h0
   obtain⟨rfl,rfl,rfl⟩:=h0;exact⟨_,_,_,rfl,Nat.zero_le _,fun i hi=>absurd hi (Nat.not_lt_zero _)⟩
 · simp[Value.cells] at hcs
   obtain⟨rfl,rfl,rfl⟩:=hcs;have hle:len≤m:=by rw[hmm];split<;>omega
   unfold maxLen at hm;refine⟨_,_,_,rfl,by omega,fun i hil=>?_⟩;obtain⟨h1,h2⟩:=hi i (by omega);obtain⟨b,off,rfl,hadd⟩:=plain_add (hi 0 (by omega)).1;obtain⟨b2,cap2,es,e1,e2,e3⟩:=open_opsrow h2;refine⟨b,off,rfl,b2,cap2,es,e2,fun w' hbw=>?_,e3⟩;rw[hadd,e1] at h1;exact keep_cell hbw h1
theorem open_nums {r:Reach} {b0:Nat} {v:Value} {d:DataW H} {p:List MemPlace} (hv:Value.okWide Tryz.prog w r b0 23 v) (h:DataW.Trod enc Tryz.prog w base spare held 23 v d p):
 ∃ a n c,v=.slice a n c∧n≤9223372036854775807∧∀ i,i<n→∃ g off,a=some ⟨g,off,none⟩∧∃ z:Int,∀ w',Below w.heap.size w w'→w'.cell? ⟨g,off+i,none⟩=some (zi z):=by
 obtain⟨a,len,cap,rfl⟩:=okWide_slice Tryz.underlying23 hv;obtain⟨fuel,hf⟩:=h
 rcases open_ints Tryz.underlying23 Tryz.underlying3 (by kernel_rfl) hf with ⟨h0,_⟩|⟨ad,l,c,zs,hcs,_,hl,hm,hz,_,hcell,_⟩
 · simp[Value.cells] at h0
   obtain⟨rfl,rfl,rfl⟩:=h0;exact⟨_,_,_,rfl,Nat.zero_le _,fun i hi=>absurd hi (Nat.not_lt_zero _)⟩
 · simp[Value.cells] at hcs
   obtain⟨rfl,rfl,rfl⟩:=hcs;unfold maxLen at hm;have hzl:len≤zs.length:=by rw[hz];split<;>omega
   refine⟨_,_,_,rfl,by omega,fun i hil=>?_⟩;obtain⟨b,off,rfl,hadd⟩:=plain_add (hcell 0 (by omega));have:=hcell i (by omega);rw[hadd] at this;exact⟨b,off,rfl,_,fun w' hbw=>keep_cell hbw this⟩
end
end Go.Proofs.YtpkenfnmkpmapaaGreat.Em
