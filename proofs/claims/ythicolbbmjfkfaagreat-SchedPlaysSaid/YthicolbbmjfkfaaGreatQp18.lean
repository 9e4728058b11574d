import Derived.Test.YthicolbbmjfkfaaGreatQp17
import Derived.Test.YthicolbbmjfkfaaGreatQp15
import Derived.Test.YthicolbbmjfkfaaGreatQp9
namespace Go.Proofs.YthicolbbmjfkfaaGreat.Em
open Go.ChangeShapes Go.WideShapes Go.ChangeAt Go.RowKit En
set_option linter.unusedVariables false
set_option linter.unusedSimpArgs false
set_option maxRecDepth 100000
set_option maxHeartbeats 1600000
def vl (σ:St) (l:Nat):Bool:=decide (1≤l % 131072)&&decide (l % 131072≤σ.slots)&&decide (l<18446744073709551616)
def vl0 (σ:St) (l:Nat):Bool:=l==0||vl σ l
def okPool (σ:St):Bool:=decide (σ.free.length<100000)&&σ.free.all (fun i=>decide (i<σ.slots))&&σ.tags.all (fun p=>decide (p.1≤65535))&&decide (σ.worn<1000000)
def okKeys (σ:St) (t:Txn):Bool:=t.keys.all fun key=>match t.cell key with|some x=>vl0 σ x.own&&vl0 σ x.old|none=>false
def okCels (σ:St) (t:Txn):Bool:=t.cells.all fun p=>!p.2.there||vl σ p.2.own
def okThn (σ:St) (s:Nat) (h:Hunt) (link:Nat):Bool:=decide ((σ.t s).reads.length<1000000)&&match h.thn with
 |.get=>vl0 σ link
 |.scan k=>decide (k=h.key)&&vl0 σ link&&decide (k≤63)&&decide ((σ.c s).op.hi≤63)&&okCels σ (σ.t s)&&decide ((σ.c s).r.pairs.length<90000)
 |.change=>decide ((σ.c s).op.key=h.key)
 |.judge i _=>decide (i+1≤(σ.t s).reads.length)
def small (σ:St) (i:Nat):Bool:=decide (σ.word i<18446744073709551616)
def okBinds (σ:St) (s:Nat):Bool:=decide ((σ.t s).bonds.length<1000000)&&decide (σ.tale.length<1000000)
def okK (σ:St) (s:Nat) (k:K):Bool:=
 decide (σ.count<3000000000000000000)&&match k with
 |.fin _=>true
 |.start h=>decide (h.key<64)&&(σ.word (9+h.key) !=0||okThn σ s h 0)
 |.visit h link=>vl σ link&&small σ (wslot link 0)
 |.older h link=>vl σ link&&(σ.word (wslot link 2) !=0||okThn σ s h 0)
 |.maker h link id=>decide (id≤2000)&&small σ (σ.place id)
 |.ended h link mb=>vl σ link&&small σ (wslot link 1)&&(mb !=0||okThn σ s h link)
 |.ender h link mb id=>decide (id≤2000)&&small σ (σ.place id)&&okBinds σ s&&(mb !=0||okThn σ s h link)
 |.seen h link mb=>decide (mb≤2000)&&small σ (σ.place mb)&&okBinds σ s&&okThn (if stateOf (σ.word (σ.place mb))=2 then σ.tick.bind s mb else σ.tick) s h link
 |.again _=>match (σ.t s).cell (σ.c s).op.key with|some x=>vl σ x.own|none=>false
 |.own link=>vl σ link&&small σ (wslot link 1)
 |.ownTxn _ _ id=>decide (id≤2000)&&small σ (σ.place id)
 |.claim link _=>vl σ link&&decide (1≤(σ.t s).id)&&decide ((σ.t s).id≤65535)&&((σ.t s).cell (σ.c s).op.key).isNone&&decide ((σ.t s).keys.length<1000000)&&okPool σ
 |.fresh link=>vl0 σ link&&decide ((σ.c s).op.key<64)&&okPool σ
 |.next link _ at_=>vl0 σ link&&vl σ at_&&okPool σ
 |.free link _ at_=>vl0 σ link&&vl σ at_&&okPool σ&&small σ (wslot at_ 0)
 |.freeTxn link _ _ id=>vl0 σ link&&decide (id≤2000)&&small σ (σ.place id)&&okPool σ
 |.slotB x link head=>vl σ link&&decide (1≤(σ.t s).id)&&decide ((σ.t s).id≤65535)
 |.slotE x link head=>vl σ link
 |.push link head=>vl σ link
 |.pushC link head=>decide ((σ.c s).op.key<64)&&((σ.t s).cell (σ.c s).op.key).isNone&&decide ((σ.t s).keys.length<1000000)
 |.over _=>decide ((σ.c s).op.key<64)
 |.overN link _=>vl σ link
 |.overC _ _=>decide ((σ.c s).op.key<64)&&((σ.t s).cell (σ.c s).op.key).isSome
 |.draw=>decide (σ.word 0<18446744073709551616)
 |.drawH x now=>decide (x<18446744073709551616)&&decide (lastOf x≤2000)
 |.turn x now=>decide (now<281474976710655)&&decide ((σ.t s).id<65536)&&decide (σ.tale.length<1000000)
 |.helpJ=>decide ((σ.t s).end_<281474976710656)&&decide ((σ.t s).id≤2000)&&decide ((σ.t s).reads.length<1000000)
 |.wait i=>match (σ.t s).bonds[i]? with|some bd=>decide (bd≤2000)&&small σ (σ.place bd)&&decide ((σ.t s).bonds.length<1000000)|none=>false
 |.commit=>decide ((σ.t s).end_≤1099511627776)&&decide ((σ.t s).id≤2000)&&decide ((σ.t s).keys.length<1000000)&&okKeys σ (σ.t s)&&decide (σ.tale.length<1000000)
 |.abort _ _=>decide ((σ.t s).end_≤1099511627776)&&decide (1≤(σ.t s).id)&&decide ((σ.t s).id≤2000)&&decide ((σ.t s).keys.length<1000000)&&okKeys σ (σ.t s)&&decide (σ.tale.length<1000000)
 |.turns [] r=>true
 |.turns (x::l) r=>decide (x.at_<σ.words.length)
theorem vl_iff {σ:St} {l:Nat} (h:vl σ l=true):VL σ l:=by
 unfold vl at h;simp only[Bool.and_eq_true,decide_eq_true_eq] at h;exact⟨h.1.1,h.1.2,h.2⟩
theorem vl0_iff {σ:St} {l:Nat} (h:vl0 σ l=true):l=0∨VL σ l:=by
 unfold vl0 at h;simp only[Bool.or_eq_true,beq_iff_eq] at h;exact h.imp id vl_iff
theorem okPool_iff {σ:St} (hn:σ.tags.length=σ.slots) (h:okPool σ=true):PoolOk σ:=by
 unfold okPool at h;simp only[Bool.and_eq_true,decide_eq_true_eq,List.all_eq_true] at h;refine⟨h.1.1.1,fun i hi=>by simpa using h.1.1.2 i hi,fun i hi=>?_,h.2⟩;have:(σ.tags.getD i (0,false))∈σ.tags:=by
  rw[List.getD_eq_getElem?_getD,List.getElem?_eq_getElem (by omega)];exact List.getElem_mem _
 simpa using h.1.2 _ this
theorem okKeys_iff {σ:St} {t:Txn} (h:okKeys σ t=true):KeysOk σ t:=by
 intro key hk;unfold okKeys at h;rw[List.all_eq_true] at h;have:=h key hk
 cases hc:t.cell key with
 |none=>rw[hc] at this;cases this
 |some x=>
  rw[hc] at this;simp only[Bool.and_eq_true] at this;exact⟨x,rfl,vl0_iff this.1,vl0_iff this.2⟩
theorem cel_mem {l:List (Nat×Cel)} {key:Nat} {x:Cel} (h:l.lookup key=some x):(key,x)∈l:=by
 induction l with
 |nil=>cases h
 |cons a l ih=>
  obtain⟨k,y⟩:=a;rw[List.lookup_cons] at h
  by_cases hk:key=k
  · subst hk
    simp at h;subst h;exact List.mem_cons_self
  · rw[beq_false_of_ne hk] at h
    exact List.mem_cons_of_mem _ (ih h)
theorem okCels_iff {σ:St} {t:Txn} (h:okCels σ t=true):CelsOk σ t:=by
 intro key x hx hth;unfold okCels at h;rw[List.all_eq_true] at h;have:=h _ (cel_mem hx);simp only[hth,Bool.not_true,Bool.false_or] at this;exact vl_iff this
theorem small_iff {σ:St} {i:Nat} (h:small σ i=true):σ.word i<18446744073709551616:=by unfold small at h;simpa using h
theorem place_lt {A:Book} {σ:St} {w:World} (hR:Rep A σ w) {id:Nat} (h:id≤2000):σ.place id<σ.words.length:=by rw[hR.nw];unfold St.place;omega
theorem func_inj {f f':FuncId} {b b' c c':Array Value} (h:Value.func (.func f) b c=.func (.func f') b' c'):f=f'∧b=b'∧c=c':=by
 simp only[Value.func.injEq,Fn.func.injEq] at h;exact h
theorem thn_to {σ:St} {s:Nat} {t:Txn} (ht:σ.txns.getD s none=some t) {c:Cal} (hc:σ.calls.getD s none=some c) {hu:Hunt} {link:Nat} (h:okThn σ s hu link=true):ThnTo σ s hu link:=by
 intro A w hR hmp w1 f cc r g hth;obtain⟨key,at_,thn⟩:=hu;unfold okThn at h;rw[txn_get ht,call_get hc,Bool.and_eq_true,decide_eq_true_eq] at h;obtain⟨hrl,h⟩:=h
 cases thn<;>simp only[Bool.and_eq_true,decide_eq_true_eq] at h
 case get=>
  obtain⟨b0,b1,b2,b3,e,k0,k1,k2,k3⟩:=hth;obtain⟨rfl,-,rfl⟩:=func_inj e;exact k_get r s t ht key link b0 b1 b2 b3 k0 k1 k2 k3 at_ (vl0_iff h) hrl
 case scan k=>
  obtain⟨⟨⟨⟨⟨rfl,h1⟩,h2⟩,h3⟩,h4⟩,h5⟩:=h;obtain⟨b0,b1,b2,b3,b4,e,k0,k1,k2,k3,k4⟩:=hth;obtain⟨rfl,-,rfl⟩:=func_inj e;exact k_scan r s t ht c hc k link at_ b0 b1 b2 b3 b4 k0 k1 k2 k3 k4 (vl0_iff h1) h2 h3 (okCels_iff h4) (by omega) hrl
 case change=>
  obtain⟨b0,b1,b2,b3,e,k0,k1,k2,k3⟩:=hth;obtain⟨rfl,-,rfl⟩:=func_inj e;exact k_change r s t ht c hc key link b0 b1 b2 b3 h k0 k1 k2 k3 at_ hrl
 case judge i l=>
  obtain⟨b0,b1,b2,b3,b4,e,k0,k1,k2,k3,k4⟩:=hth;obtain⟨rfl,-,rfl⟩:=func_inj e;exact k_judge r s t ht i l at_ key link b0 b1 b2 b3 b4 k0 k1 k2 k3 k4 h hrl
theorem bind_has {σ:St} {s tq:Nat} {t:Txn} (ht:σ.txns.getD s none=some t):∃ t',(σ.bind s tq).txns.getD s none=some t':=by
 unfold St.bind;rw[txn_get ht]
 split
 · exact⟨t,ht⟩
 · exact⟨{t with bonds:=t.bonds++[tq]},by show (σ.setT s _).txns.getD s none=_;rw[getT_set (lt_of_txn ht),if_pos rfl]⟩
theorem bind_calls (σ:St) (s tq:Nat):(σ.bind s tq).calls=σ.calls:=by unfold St.bind;split<;>rfl
set_option maxHeartbeats 4000000 in
theorem runsTo {σ:St} {s:Nat} (hs:s<8) {t:Txn} (ht:σ.txns.getD s none=some t) {c:Cal} (hc:σ.calls.getD s none=some c) (k:K) (h:okK σ s k=true):RunsTo σ s k:=by
 intro A w1 f b cc hR hmp hmt hk;unfold okK at h;rw[Bool.and_eq_true,decide_eq_true_eq] at h;obtain⟨hcnt0,h⟩:=h;have hcnt:σ.count<4000000000000000000:=by omega
 have et:=txn_get ht;have ec:=call_get hc
 cases k
 case fin r=>
  obtain⟨b0,b1,b2,e,k0,k1,k2⟩:=hk;obtain⟨rfl,rfl,rfl⟩:=func_inj e;exact k_fin hR s c hc r b0 b1 b2 k0 k1 k2
 case start hu=>
  obtain⟨bh,e,k0⟩:=hk;obtain⟨rfl,rfl,rfl⟩:=func_inj e;simp only[Bool.and_eq_true,decide_eq_true_eq,Bool.or_eq_true,bne_iff_ne] at h;exact k_start hR s hu bh k0 h.1 hcnt fun hz w2 r2 g2=>thn_to (σ:=σ.tick) ht hc (h.2.resolve_left (fun hne=>hne hz)) A w2 r2 hmp
 case visit hu link=>
  obtain⟨b0,b1,e,k0,k1⟩:=hk;obtain⟨rfl,rfl,rfl⟩:=func_inj e;simp only[et,ec,Bool.and_eq_true,decide_eq_true_eq,Bool.or_eq_true,bne_iff_ne,Option.isNone_iff_eq_none,Option.isSome_iff_exists] at h;obtain⟨h1,h2⟩:=h;exact k_visit hR s t ht hu link b0 b1 k0 k1 (vl_iff h1).lo (vl_iff h1).hi (vl_iff h1).u (small_iff h2) hcnt
 case older hu link=>
  obtain⟨b0,b1,e,k0,k1⟩:=hk;obtain⟨rfl,rfl,rfl⟩:=func_inj e;simp only[et,ec,Bool.and_eq_true,decide_eq_true_eq,Bool.or_eq_true,bne_iff_ne,Option.isNone_iff_eq_none,Option.isSome_iff_exists] at h;obtain⟨h1,h2⟩:=h;exact k_older hR s hmp hu link b0 b1 k0 k1 (vl_iff h1) hcnt (fun hz=>thn_to (σ:=σ.tick) ht hc (h2.resolve_left (fun hne=>hne hz)))
 case maker hu link id=>
  obtain⟨b0,b1,b2,e,k0,k1,k2⟩:=hk;obtain⟨rfl,rfl,rfl⟩:=func_inj e;simp only[et,ec,Bool.and_eq_true,decide_eq_true_eq,Bool.or_eq_true,bne_iff_ne,Option.isNone_iff_eq_none,Option.isSome_iff_exists] at h;obtain⟨h1,h2⟩:=h;exact k_maker hR s hu link id b0 b1 b2 k0 k1 k2 (by omega) (place_lt hR h1) (small_iff h2) hcnt
 case ended hu link mb=>
  obtain⟨b0,b1,b2,e,k0,k1,k2⟩:=hk;obtain⟨rfl,rfl,rfl⟩:=func_inj e;simp only[et,ec,Bool.and_eq_true,decide_eq_true_eq,Bool.or_eq_true,bne_iff_ne,Option.isNone_iff_eq_none,Option.isSome_iff_exists] at h;obtain⟨⟨h1,h2⟩,h3⟩:=h;exact k_ended hR s hmp t ht hu link mb b0 b1 b2 k0 k1 k2 (vl_iff h1) (small_iff h2) hcnt (fun hz=>thn_to (σ:=σ.tick) ht hc (h3.resolve_left (fun hne=>hne hz)))
 case ender hu link mb id=>
  obtain⟨b0,b1,b2,b3,e,k0,k1,k2,k3⟩:=hk;obtain⟨rfl,rfl,rfl⟩:=func_inj e;simp only[et,ec,Bool.and_eq_true,decide_eq_true_eq,Bool.or_eq_true,bne_iff_ne,Option.isNone_iff_eq_none,Option.isSome_iff_exists] at h;unfold okBinds at h;simp only[et,Bool.and_eq_true,decide_eq_true_eq] at h;obtain⟨⟨⟨h1,h2⟩,h3,h4⟩,h5⟩:=h;exact k_ender hR s hmp t ht hu link mb id b0 b1 b2 b3 k0 k1 k2 k3 (by omega) (place_lt hR h1) (small_iff h2) h3 h4 hcnt (fun hz=>thn_to (σ:=σ.tick) ht hc (h5.resolve_left (fun hne=>hne hz)))
 case seen hu link mb=>
  obtain⟨b0,b1,b2,e,k0,k1,k2⟩:=hk;obtain⟨rfl,rfl,rfl⟩:=func_inj e;simp only[et,ec,Bool.and_eq_true,decide_eq_true_eq,Bool.or_eq_true,bne_iff_ne,Option.isNone_iff_eq_none,Option.isSome_iff_exists] at h;unfold okBinds at h;simp only[et,Bool.and_eq_true,decide_eq_true_eq] at h;obtain⟨⟨⟨h1,h2⟩,h3,h4⟩,h5⟩:=h;have hthn:ThnTo (if stateOf (σ.word (σ.place mb))=2 then σ.tick.bind s mb else σ.tick) s hu link:=by
   split at h5
   · rename_i hq
     rw[if_pos hq];obtain⟨t',ht'⟩:=bind_has (σ:=σ.tick) (tq:=mb) ht;exact thn_to ht' (by rw[bind_calls];exact hc) h5
   · rename_i hq
     rw[if_neg hq];exact thn_to (σ:=σ.tick) ht hc h5
  exact k_seen hR s hmp t ht hu link mb b0 b1 b2 k0 k1 k2 (by omega) (place_lt hR h1) (small_iff h2) h3 h4 hcnt hthn (fun _ _=>trivial)
 case again en=>
  obtain⟨b0,b1,b2,b3,e,k0,k1,k2,k3⟩:=hk;obtain⟨rfl,rfl,rfl⟩:=func_inj e;simp only[et,ec,Bool.and_eq_true,decide_eq_true_eq,Bool.or_eq_true,bne_iff_ne,Option.isNone_iff_eq_none,Option.isSome_iff_exists] at h
  cases hx:t.cell c.op.key with
  |none=>rw[hx] at h;cases h
  |some x=>
  rw[hx] at h
  by_cases hkd:c.op.kind=4
  · exact k_again_del hR s t ht c hc en x hx (vl_iff h) hkd hcnt b0 b1 b2 b3 k0 k1 k2 k3
  exact k_again_put hR s t ht c hc en x hx (vl_iff h) hkd hcnt b0 b1 b2 b3 k0 k1 k2 k3
 case own link=>
  obtain⟨b0,b1,b2,b3,e,k0,k1,k2,k3⟩:=hk;obtain⟨rfl,rfl,rfl⟩:=func_inj e;simp only[et,ec,Bool.and_eq_true,decide_eq_true_eq,Bool.or_eq_true,bne_iff_ne,Option.isNone_iff_eq_none,Option.isSome_iff_exists] at h;obtain⟨h1,h2⟩:=h;exact k_own hR s t ht link (vl_iff h1) (small_iff h2) hcnt b0 b1 b2 b3 k0 k1 k2 k3
 case ownTxn link x1 id=>
  obtain⟨b0,b1,b2,b3,b4,b5,e,k0,k1,k2,k3,k4,k5⟩:=hk;obtain⟨rfl,rfl,rfl⟩:=func_inj e;simp only[et,ec,Bool.and_eq_true,decide_eq_true_eq,Bool.or_eq_true,bne_iff_ne,Option.isNone_iff_eq_none,Option.isSome_iff_exists] at h;obtain⟨h1,h2⟩:=h;exact k_ownTxn hR s link x1 id (by omega) (place_lt hR h1) (small_iff h2) hcnt b0 b1 b2 b3 b4 b5 k0 k1 k2 k3 k4 k5
 case claim link x1=>
  obtain⟨b0,b1,b2,b3,b4,e,k0,k1,k2,k3,k4⟩:=hk;obtain⟨rfl,rfl,rfl⟩:=func_inj e;simp only[et,ec,Bool.and_eq_true,decide_eq_true_eq,Bool.or_eq_true,bne_iff_ne,Option.isNone_iff_eq_none,Option.isSome_iff_exists] at h;obtain⟨⟨⟨⟨⟨h1,h2⟩,h3⟩,h4⟩,h5⟩,h6⟩:=h;exact k_claim hR s t ht c hc hmp link x1 (vl_iff h1) h2 h3 h4 h5 (okPool_iff hR.nt h6) hcnt b0 b1 b2 b3 b4 k0 k1 k2 k3 k4
 case fresh link=>
  obtain⟨b0,b1,b2,b3,e,k0,k1,k2,k3⟩:=hk;obtain⟨rfl,rfl,rfl⟩:=func_inj e;simp only[et,ec,Bool.and_eq_true,decide_eq_true_eq,Bool.or_eq_true,bne_iff_ne,Option.isNone_iff_eq_none,Option.isSome_iff_exists] at h;obtain⟨⟨h1,h2⟩,h3⟩:=h;exact k_fresh hR s c hc link (vl0_iff h1) h2 hmp (okPool_iff hR.nt h3) hcnt b0 b1 b2 b3 k0 k1 k2 k3
 case next link hd at_=>
  obtain⟨b0,b1,b2,b3,b4,b5,e,k0,k1,k2,k3,k4,k5⟩:=hk;obtain⟨rfl,rfl,rfl⟩:=func_inj e;simp only[et,ec,Bool.and_eq_true,decide_eq_true_eq,Bool.or_eq_true,bne_iff_ne,Option.isNone_iff_eq_none,Option.isSome_iff_exists] at h;obtain⟨⟨h1,h2⟩,h3⟩:=h;exact k_next hR s c hc link hd at_ (vl0_iff h1) (vl_iff h2) hmp (okPool_iff hR.nt h3) hcnt b0 b1 b2 b3 b4 b5 k0 k1 k2 k3 k4 k5
 case free link hd at_=>
  obtain⟨b0,b1,b2,b3,b4,b5,e,k0,k1,k2,k3,k4,k5⟩:=hk;obtain⟨rfl,rfl,rfl⟩:=func_inj e;simp only[et,ec,Bool.and_eq_true,decide_eq_true_eq,Bool.or_eq_true,bne_iff_ne,Option.isNone_iff_eq_none,Option.isSome_iff_exists] at h;obtain⟨⟨⟨h1,h2⟩,h3⟩,h4⟩:=h;exact k_free hR s t ht link hd at_ (vl0_iff h1) (vl_iff h2) (okPool_iff hR.nt h3) (small_iff h4) hcnt b0 b1 b2 b3 b4 b5 k0 k1 k2 k3 k4 k5
 case freeTxn link hd at_ id=>
  obtain⟨b0,b1,b2,b3,b4,b5,e,k0,k1,k2,k3,k4,k5⟩:=hk;obtain⟨rfl,rfl,rfl⟩:=func_inj e;simp only[et,ec,Bool.and_eq_true,decide_eq_true_eq,Bool.or_eq_true,bne_iff_ne,Option.isNone_iff_eq_none,Option.isSome_iff_exists] at h;obtain⟨⟨⟨h1,h2⟩,h3⟩,h4⟩:=h;exact k_freeTxn hR s t ht link hd at_ id (vl0_iff h1) (by omega) (place_lt hR h2) (small_iff h3) (okPool_iff hR.nt h4) hcnt b0 b1 b2 b3 b4 b5 k0 k1 k2 k3 k4 k5
 case slotB x link hd=>
  obtain⟨b0,b1,b2,b3,b4,b5,e,k0,k1,k2,k3,k4,k5⟩:=hk;obtain⟨rfl,rfl,rfl⟩:=func_inj e;simp only[et,ec,Bool.and_eq_true,decide_eq_true_eq,Bool.or_eq_true,bne_iff_ne,Option.isNone_iff_eq_none,Option.isSome_iff_exists] at h;obtain⟨⟨h1,h2⟩,h3⟩:=h;exact k_slotB hR s t ht b0 b1 b2 b3 b4 b5 x link hd k0 k1 k2 k3 k4 k5 hcnt (vl_iff h1) h2 h3
 case slotE x link hd=>
  obtain⟨b0,b1,b2,b3,b4,b5,e,k0,k1,k2,k3,k4,k5⟩:=hk;obtain⟨rfl,rfl,rfl⟩:=func_inj e;exact k_slotE hR s t ht x link hd hcnt (vl_iff h) b0 b1 b2 b3 b4 b5 k0 k1 k2 k3 k4 k5
 case push link hd=>
  obtain⟨b0,b1,b2,b3,b4,e,k0,k1,k2,k3,k4⟩:=hk;obtain⟨rfl,rfl,rfl⟩:=func_inj e;exact k_push hR s t ht b0 b1 b2 b3 b4 link hd k0 k1 k2 k3 k4 hcnt (vl_iff h)
 case pushC link hd=>
  obtain⟨b0,b1,b2,b3,b4,e,k0,k1,k2,k3,k4⟩:=hk;obtain⟨rfl,rfl,rfl⟩:=func_inj e;simp only[et,ec,Bool.and_eq_true,decide_eq_true_eq,Bool.or_eq_true,bne_iff_ne,Option.isNone_iff_eq_none,Option.isSome_iff_exists] at h;obtain⟨⟨h1,h2⟩,h3⟩:=h;exact k_pushC hR s t ht c hc link hd h1 h2 h3 hcnt b0 b1 b2 b3 b4 k0 k1 k2 k3 k4
 case over link=>
  obtain⟨b0,b1,b2,b3,b4,e,k0,k1,k2,k3,k4⟩:=hk;obtain⟨rfl,rfl,rfl⟩:=func_inj e;simp only[et,ec,Bool.and_eq_true,decide_eq_true_eq,Bool.or_eq_true,bne_iff_ne,Option.isNone_iff_eq_none,Option.isSome_iff_exists] at h;exact k_over hR s c hc link h hcnt b0 b1 b2 b3 b4 k0 k1 k2 k3 k4
 case overN link hd=>
  obtain⟨b0,b1,b2,b3,b4,b5,e,k0,k1,k2,k3,k4,k5⟩:=hk;obtain⟨rfl,rfl,rfl⟩:=func_inj e;exact k_overN hR s t ht b0 b1 b2 b3 b4 b5 link hd k0 k1 k2 k3 k4 k5 hcnt (vl_iff h)
 case overC link hd=>
  obtain⟨b0,b1,b2,b3,b4,b5,e,k0,k1,k2,k3,k4,k5⟩:=hk;obtain⟨rfl,rfl,rfl⟩:=func_inj e;simp only[et,ec,Bool.and_eq_true,decide_eq_true_eq,Bool.or_eq_true,bne_iff_ne,Option.isNone_iff_eq_none,Option.isSome_iff_exists] at h;obtain⟨h1,x,hx⟩:=h;exact k_overC hR s t ht c hc link hd h1 x hx hcnt b0 b1 b2 b3 b4 b5 k0 k1 k2 k3 k4 k5
 case draw=>
  obtain⟨b0,b1,b2,e,k0,k1,k2⟩:=hk;obtain⟨rfl,rfl,rfl⟩:=func_inj e;simp only[et,ec,Bool.and_eq_true,decide_eq_true_eq,Bool.or_eq_true,bne_iff_ne,Option.isNone_iff_eq_none,Option.isSome_iff_exists] at h;exact k_draw hR s h hcnt b0 b1 b2 k0 k1 k2
 case drawH x now=>
  obtain⟨b0,b1,b2,e,k0,k1,k2⟩:=hk;obtain⟨rfl,rfl,rfl⟩:=func_inj e;simp only[et,ec,Bool.and_eq_true,decide_eq_true_eq,Bool.or_eq_true,bne_iff_ne,Option.isNone_iff_eq_none,Option.isSome_iff_exists] at h;obtain⟨h1,h2⟩:=h;exact k_drawH hR s x now h1 h2 hcnt b0 b1 b2 k0 k1 k2
 case turn x now=>
  obtain⟨b0,b1,b2,b3,b4,e,k0,k1,k2,k3,k4⟩:=hk;obtain⟨rfl,rfl,rfl⟩:=func_inj e;simp only[et,ec,Bool.and_eq_true,decide_eq_true_eq,Bool.or_eq_true,bne_iff_ne,Option.isNone_iff_eq_none,Option.isSome_iff_exists] at h;obtain⟨⟨h1,h2⟩,h3⟩:=h;exact k_turn hR s t ht x now h1 h2 h3 hcnt b0 b1 b2 b3 b4 k0 k1 k2 k3 k4
 case helpJ=>
  obtain⟨b0,b1,b2,e,k0,k1,k2⟩:=hk;obtain⟨rfl,rfl,rfl⟩:=func_inj e;simp only[et,ec,Bool.and_eq_true,decide_eq_true_eq,Bool.or_eq_true,bne_iff_ne,Option.isNone_iff_eq_none,Option.isSome_iff_exists] at h;obtain⟨⟨h1,h2⟩,h3⟩:=h;exact k_helpJ hR s t ht h1 h2 h3 hcnt b0 b1 b2 k0 k1 k2
 case wait i=>
  obtain⟨b0,b1,b2,b3,b4,e,k0,k1,k2,k3,k4⟩:=hk;obtain⟨rfl,rfl,rfl⟩:=func_inj e;simp only[et,ec,Bool.and_eq_true,decide_eq_true_eq,Bool.or_eq_true,bne_iff_ne,Option.isNone_iff_eq_none,Option.isSome_iff_exists] at h
  cases hb:t.bonds[i]? with
  |none=>rw[hb] at h;cases h
  |some bd=>
  rw[hb] at h;simp only[Bool.and_eq_true,decide_eq_true_eq] at h;obtain⟨⟨h1,h2⟩,h3⟩:=h;exact k_wait hR s t ht c hc i bd hb h3 (by omega) (place_lt hR h1) (small_iff h2) hcnt b0 b1 b2 b3 b4 k0 k1 k2 k3 k4
 case commit=>
  obtain⟨b0,b1,b2,e,k0,k1,k2⟩:=hk;obtain⟨rfl,rfl,rfl⟩:=func_inj e;simp only[et,ec,Bool.and_eq_true,decide_eq_true_eq,Bool.or_eq_true,bne_iff_ne,Option.isNone_iff_eq_none,Option.isSome_iff_exists] at h;obtain⟨⟨⟨⟨h1,h2⟩,h3⟩,h4⟩,h5⟩:=h;exact k_commit hR s t ht hmt h1 h2 h3 (okKeys_iff h4) h5 hcnt b0 b1 b2 k0 k1 k2
 case abort er re=>
  obtain⟨b0,b1,b2,b3,b4,e,k0,k1,k2,k3,k4⟩:=hk;obtain⟨rfl,rfl,rfl⟩:=func_inj e;simp only[et,ec,Bool.and_eq_true,decide_eq_true_eq,Bool.or_eq_true,bne_iff_ne,Option.isNone_iff_eq_none,Option.isSome_iff_exists] at h;obtain⟨⟨⟨⟨⟨h1,h2⟩,h3⟩,h4⟩,h5⟩,h6⟩:=h;exact k_abort hR s t ht hmt er re h1 h2 h3 h4 (okKeys_iff h5) h6 hcnt b0 b1 b2 b3 b4 k0 k1 k2 k3 k4
 case turns l r=>
  cases l with
  |nil=>
   obtain⟨b0,b1,b2,b3,e,k0,k1,k2,k3⟩:=hk;obtain⟨rfl,rfl,rfl⟩:=func_inj e;exact k_turnsE hR s t ht c hc r hs hcnt b0 b1 b2 b3 k0 k1 k2 k3
  |cons x l=>
   obtain⟨b0,b1,b2,b3,b4,e,k0,k1,k2,k3,k4⟩:=hk;obtain⟨rfl,rfl,rfl⟩:=func_inj e;simp only[decide_eq_true_eq] at h;exact k_turnsC hR s c hc x l r h hcnt b0 b1 b2 b3 b4 k0 k1 k2 k3 k4
def okFirst (σ:St) (s:Nat):Bool:=match (σ.c s).op.kind with
 |6=>true
 |7=>true
 |1=>match (σ.t s).cell (σ.c s).op.key with|none=>true|some x=>!x.there||vl σ x.own
 |5=>decide ((σ.c s).op.key≤63)&&decide ((σ.c s).op.hi≤63)&&okCels σ (σ.t s)&&decide ((σ.c s).r.pairs.length<90000)
 |2=>okWrite σ s
 |3=>okWrite σ s
 |4=>okWrite σ s
 |_=>false
where okWrite (σ:St) (s:Nat):Bool:=match (σ.t s).cell (σ.c s).op.key with|none=>true|some _=>decide (1≤(σ.t s).id)&&decide ((σ.t s).id≤65535)&&okPool σ
theorem firstTo {σ:St} {s:Nat} {t:Txn} (ht:σ.txns.getD s none=some t) {c:Cal} (hc:σ.calls.getD s none=some c) (h:okFirst σ s=true):FirstTo σ s:=by
 intro A w hR hmp;have et:=txn_get ht;have ec:=call_get hc;unfold okFirst okFirst.okWrite at h;rw[et,ec] at h;have hret:∀ r,∀ e w',Tells A w s r e w'→∃ v,e=.returned v:=fun r e w' ⟨_,v,hv,_⟩=>⟨v,hv⟩
 refine first_tells hR s c hc _ (fun hk=>?_) (fun hk=>?_) (fun hk=>?_) (fun hk=>?_) (fun k1 k5 k6 k7=>?_) (hret _)
 · rw[hk] at h
   simp only at h
   cases hx:t.cell c.op.key with
   |none=>
    have e:σ.first s=(σ,.start ⟨c.op.key,t.begin_,.get⟩):=by unfold St.first;rw[ec,et];simp only[hk,hx]
    rw[e];exact get_none hR s t ht c hc hx
   |some x=>
    rw[hx] at h;have e:σ.first s=(σ,if x.there then .fin {value:=σ.valueOf x.own} else .fin {e:=11}):=by unfold St.first;rw[ec,et];simp only[hk,hx]
    rw[e]
    cases hth:x.there with
    |true=>
     simp only[hth,Bool.not_true,Bool.false_or] at h;rw[if_pos rfl];exact get_there hR s t ht c hc x hx hth (vl_iff h)
    |false=>
     rw[if_neg (by decide)];exact get_gone hR s t ht c hc x hx hth
 · rw[hk] at h
   simp only[Bool.and_eq_true,decide_eq_true_eq] at h;obtain⟨⟨⟨h1,h2⟩,h3⟩,h4⟩:=h;have e:σ.first s=σ.scan s c.op.key:=by unfold St.first;rw[ec];simp only[hk]
   rw[e];exact scan_any hR s t ht c hc c.op.key (by omega) h2 (okCels_iff h3) (by omega)
 · have e:σ.first s=(σ,.draw):=by unfold St.first;rw[ec];simp only[hk]
   rw[e];exact draw_any hR s
 · have e:σ.first s=(σ,.abort 0 1):=by unfold St.first;rw[ec];simp only[hk]
   rw[e];exact abort_any hR s 0 1
 · have hx:(match t.cell c.op.key with|none=>true|some _=>decide (1≤t.id)&&decide (t.id≤65535)&&okPool σ)=true∧(c.op.kind=2∨c.op.kind=3∨c.op.kind=4):=by
    split at h
    · omega
    · omega
    · omega
    · omega
    · rename_i hk;exact⟨h,.inl hk⟩
    · rename_i hk;exact⟨h,.inr (.inl hk)⟩
    · rename_i hk;exact⟨h,.inr (.inr hk)⟩
    · cases h
   obtain⟨hx1,hkk⟩:=hx
   cases hx:t.cell c.op.key with
   |none=>
    have e:σ.first s=(σ,.start ⟨c.op.key,t.begin_,.change⟩):=by
     rcases hkk with hk|hk|hk<;>(unfold St.first;rw[ec,et];simp only[hk,hx])
    rw[e];exact change_none hR s t ht c hc hx
   |some x=>
    rw[hx] at hx1;simp only[Bool.and_eq_true,decide_eq_true_eq] at hx1;have e:σ.first s=againK σ s t x c.op.kind:=by
     rcases hkk with hk|hk|hk<;>(unfold St.first againK;rw[ec,et];simp only[hk,hx])
    rw[e];exact change_some hR s t ht c hc hmp x hx hx1.1.1 hx1.1.2 (okPool_iff hR.nt hx1.2)
def okOthers (σ σ2:St) (s:Nat):Bool:=decide (σ.calls.length=8)&&decide (σ2.calls.length=8)&&(List.range 8).all fun q=>q==s||decide (σ2.calls.getD q none=σ.calls.getD q none)
theorem okOthers_iff {σ σ2:St} {s:Nat} (h:okOthers σ σ2 s=true):∀ q,q≠s→σ2.calls.getD q none=σ.calls.getD q none:=by
 intro q hq;unfold okOthers at h;simp only[Bool.and_eq_true,decide_eq_true_eq,List.all_eq_true,List.mem_range,Bool.or_eq_true,beq_iff_eq] at h
 by_cases h8:q<8
 · exact (h.2 q h8).resolve_left hq
 · simp[List.getD_eq_getElem?_getD,List.getElem?_eq_none (show σ2.calls.length≤q by omega),List.getElem?_eq_none (show σ.calls.length≤q by omega)]
def afterStep (σ:St) (s:Nat) (σ2:St) (ok:Option K) (c2:Cal):Option (St×Nat×Res):=
 match ok with
 |some k'=>if c2.over=false then some ({σ2.setC s {c2 with k:=some k'} with looks:=σ2.looks+(σ2.count - σ.count)},if c2.waits then 2 else 1,{}) else none
 |none=>
  if c2.waits=false∧c2.over=true∧c2.r.pairs.length≤1000000 then
   if c2.r.over=0 then
    match σ2.txns.getD s none with
    |some t2=>if σ2.tale.length<1000000 then some (({σ2.setC s {c2 with k:=none} with looks:=σ2.looks+(σ2.count - σ.count),calls:=(σ2.setC s {c2 with k:=none}).calls.set s none}:St).event {kind:=2,t:=t2.id,op:=c2.op,res:=c2.r},3,c2.r) else none
    |none=>none
   else if c2.r.pairs=[] then some ({σ2.setC s {c2 with k:=none} with looks:=σ2.looks+(σ2.count - σ.count),calls:=(σ2.setC s {c2 with k:=none}).calls.set s none,txns:=σ2.txns.set s none},3,c2.r) else none
  else none
def oneStep (σ:St) (s:Nat):Option (St×Nat×Res):=
 match σ.txns.getD s none,σ.calls.getD s none with
 |some t,some c=>
  match c.k with
  |some k=>
   match (σ.setC s {c with waits:=false}).run s k with
   |(σ2,ok)=>
    match σ2.calls.getD s none with
    |some c2=>
     if okK (σ.setC s {c with waits:=false}) s k=true∧okOthers σ σ2 s=true∧σ.count≤σ2.count∧σ2.count - σ.count<1000000∧σ2.looks<1000000000000000000∧σ.count<3000000000000000000 then afterStep σ s σ2 ok c2 else none
    |none=>none
  |none=>none
 |_,_=>none
theorem step_calls {A:Book} {σ:St} {w:World} (hL:Live A σ w) {s:Nat} (hs:s<8) {σ':St} {kd:Nat} {r:Res} (h:oneStep σ s=some (σ',kd,r)):
 Calls Tryz.prog 34 #[.pointer (some ⟨A.be,0,none⟩),zi (s:Int)] w (Stepped A w σ' (kd:Int) r):=by
 unfold oneStep at h
 split at h
 · rename_i t c ht hc
   split at h
   · rename_i k hk
     split at h
     rename_i σ2 ok hrun
     split at h
     · rename_i c2 hc2
       split at h
       · rename_i hh
         obtain⟨h1,h2,h3,h4,h5,h6⟩:=hh;have hc1:(σ.setC s {c with waits:=false}).calls.getD s none=some {c with waits:=false}:=by rw[getC_set (lt_of_call hc),if_pos rfl]
         have hRT:=runsTo hs (σ:=σ.setC s {c with waits:=false}) (t:=t) ht hc1 k h1;have hdl:σ2.count=σ.count+(σ2.count - σ.count):=by omega
         have hcq:=okOthers_iff h2;unfold afterStep at h
         cases ok with
         |some k'=>
          simp only at h
          split at h
          · rename_i hov
            simp only[Option.some.injEq,Prod.mk.injEq] at h;obtain⟨rfl,rfl,rfl⟩:=h;have:=step_go hL s hs t ht c hc k hk h6 σ2 _ hrun hRT c2 hc2 _ hdl h4 h5 hcq k' rfl hov
            cases hw:c2.waits<;>(rw[hw] at this;simpa [hw] using this)
          · cases h
         |none=>
          simp only at h
          split at h
          · rename_i hh
            obtain⟨hw,hov,hpr⟩:=hh
            split at h
            · rename_i hro
              split at h
              · rename_i t2 ht2
                split at h
                · rename_i htl
                  simp only[Option.some.injEq,Prod.mk.injEq] at h;obtain⟨rfl,rfl,rfl⟩:=h;exact step_pairs hL s hs t ht c hc k hk h6 σ2 _ hrun hRT c2 hc2 _ hdl h4 h5 hcq t2 ht2 htl rfl hw hov hpr hro
                · cases h
              · cases h
            · rename_i hro
              split at h
              · rename_i hpe
                simp only[Option.some.injEq,Prod.mk.injEq] at h;obtain⟨rfl,rfl,rfl⟩:=h;exact step_over hL s hs t ht c hc k hk h6 σ2 _ hrun hRT c2 hc2 _ hdl h4 h5 hcq rfl hw hov hpe hro
              · cases h
          · cases h
       · cases h
     · cases h
   · cases h
 · cases h
def capTo (n:Int):Int:=min (max n 0) 1000
def boundOf (n c:Int):Int:=wrap64 (wrap64 (400*(capTo n+1)*(capTo c+64))*(capTo n+4))
theorem capTo_low {n:Int} (h:n<0):capTo n=0:=by unfold capTo;omega
theorem capTo_mid {n:Int} (h:0≤n) (h2:(if n<0 then 0 else n)≤1000):capTo n=n:=by rw[if_neg (by omega)] at h2;unfold capTo;omega
theorem capTo_high {n:Int} (h:0≤n) (h2:1000<(if n<0 then 0 else n)):capTo n=1000:=by rw[if_neg (by omega)] at h2;unfold capTo;omega
theorem bound_any (n c:Int) (w:World):Calls Tryz.prog 51 #[zi n,zi c] w fun e w'=>e=.returned (zi (boundOf n c))∧w=w':=by
 go_enter Tryz.func51,Tryz.ntmps51;go_wp2
 all_goals (go_ret;refine⟨?_,rfl⟩;unfold boundOf;first|(rw[capTo_low (n:=n) (by assumption)])|(rw[capTo_mid (n:=n) (by assumption) (by assumption)])|(rw[capTo_high (n:=n) (by assumption) (by assumption)]))
 all_goals (first|(rw[capTo_low (n:=c) (by assumption)];rfl)|(rw[capTo_mid (n:=c) (by assumption) (by assumption)];rfl)|(rw[capTo_high (n:=c) (by assumption) (by assumption)];rfl))
variable {A:Book} {σ:St} {w:World}
theorem Live.world {A:Book} {σ:St} {w w':World} (hL:Live A σ w) (r:Rep A σ w') (g:Grow A.L w A.L w'):Live A σ w':=
 ⟨r,hL.mp,hL.mt,fun s h c hc=>let ⟨e1,k,e2,e3⟩:=hL.call s h c hc;⟨e1,k,e2,e3.grow g⟩,hL.idle,hL.sx.keep rfl ⟨rfl,rfl⟩ g⟩
theorem Live.alloc (hL:Live A σ w) (o:Obj):Live A σ (w.alloc o):=hL.world (hL.rep.alloc _) (Grow.alloc _ _ _)
theorem Live.below {A:Book} {σ:St} {w w':World} (hL:Live A σ w) (h:Below w.heap.size w w'):Live A σ w':=hL.world (hL.rep.below h) (Grow.below h)
theorem Live.newTmp (hL:Live A σ w) (o:Obj):Live (A.tmp w.heap.size) σ (w.alloc o):=
 let ⟨r,g,_,_⟩:=hL.rep.newTmp o
 ⟨r,hL.mp,hL.mt,fun s h c hc=>let ⟨e1,k,e2,e3⟩:=hL.call s h c hc;⟨e1,k,e2,(show KRep (kp A σ s) (A.tmp w.heap.size).L (w.alloc o) (A.vnext s) k from e3.grow g)⟩,hL.idle,hL.sx.keep rfl ⟨rfl,rfl⟩ g⟩
theorem Live.but {A:Book} {σ:St} {w w':World} {b:Nat} (hL:Live A σ w) (hl:A.L b=some .tmp) (h:But b w w'):Live A σ w':=
 ⟨hL.rep.but hl h,hL.mp,hL.mt,fun s hs c hc=>let ⟨e1,k,e2,e3⟩:=hL.call s hs c hc;⟨e1,k,e2,e3.soft (h.soft hl)⟩,hL.idle,hL.sx.soft rfl (h.soft hl)⟩
def IssueTo (σ:St) (s:Nat) (o:En.Op) (σ1:St) (err:Nat):Prop:=∀ A w,Live A σ w→Calls Tryz.prog 33 #[.pointer (some ⟨A.be,0,none⟩),zi (s:Int),.agg #[zi (o.kind:Int),zi (o.key:Int),zi (o.hi:Int),zi (o.value:Int)]] w (Issued A w σ1 (err:Int))
theorem frow_form {L:Lab} {w:World} {size:Nat} {v:Value} {xs:List Value} (h:FRow L w size v xs):∃ a n cap,v=.slice a n cap:=let ⟨a,n,cap,e,_⟩:=h;⟨a,n,cap,e⟩
theorem below_drewN (w:World) (n:Nat):Below w.heap.size w (w.drewN n):=⟨rfl,rfl,rfl,Nat.le_refl _,fun _ _=>rfl⟩
theorem now_any (hR:Rep A σ w) (hx:σ.word 0<18446744073709551616):Calls Tryz.prog 19 #[.pointer (some ⟨A.be,0,none⟩)] w fun e w'=>e=.returned (zu (σ.now:Int))∧Below w.heap.size w w':=by
 have c2:w.cell? ⟨A.be,2,none⟩=some (.pointer (some ⟨A.ba,0,none⟩)):=hR.eng 2 rfl;have HP:=zH (peek_any hR 0 (by rw[hR.nw];omega));have HD:=zH (drawn_any (σ.word 0) hx);clear hR hx;go_enter Tryz.func19,Tryz.ntmps19;go_wp2_with (first|(go_at_call 58;refine HP.out.mono ?_;rintro e w' ⟨rfl,n,rfl⟩)|(go_at_call 43;refine (HD.out _).mono ?_;rintro e w' ⟨rfl,rfl⟩));go_ret;exact⟨rfl,below_drewN _ _⟩
theorem list_slots (σ:St):σ.list.slots=σ.slots∧σ.list.worn=σ.worn:=by unfold St.list;split<;>exact⟨rfl,rfl⟩
theorem pool_free (hR:Rep A σ w) (hm:A.mp=0) (hn:σ.free.length<100000):
 Calls Tryz.prog 102 #[.pointer (some ⟨A.bp,0,none⟩)] w (Pooled A w σ.list (zi (σ.list.free.length:Int))):=by
 have HL:=zH (list_any hR hm hn);clear hR hm hn;go_enter Tryz.func102,Tryz.ntmps102;go_wp2_with (go_at_call 137;refine HL.out.mono ?_;rintro e w1 ⟨rfl,A',q1,q2,q3⟩;have hown:=q2.mem.all .free;obtain⟨av,cp,hv,_⟩:=Ow.own_form hown.1;have c2:=q2.pool 2 (v:=A'.vfree) rfl;rw[hv] at c2;obtain⟨⟨L,vf,m,hA'⟩,hmp⟩:=id q1;have ebp:A'.bp=A.bp:=(by rw[hA']);rw[ebp] at c2;have HQ:=zH (zA q1 (zA q2 q3));clear q1 q2 q3 hown hv hA' hmp ebp);go_ret;exact⟨rfl,A',HQ.out⟩
theorem pool_used (hR:Rep A σ w) (hm:A.mp=0) (hn:σ.free.length<100000) (hu:σ.list.free.length+σ.worn≤σ.slots):
 Calls Tryz.prog 75 #[.pointer (some ⟨A.bp,0,none⟩)] w (Pooled A w σ.list (zi (σ.used:Int))):=by
 have hsl:=hR.sl;have c0:w.drew.cell? ⟨A.bp,0,none⟩=some (.slice (some ⟨A.bs,0,none⟩) σ.slots σ.slots):=hR.pool 0 rfl;have c3:w.drew.cell? ⟨A.bp,3,none⟩=some (zi (σ.worn:Int)):=hR.pool 3 rfl;obtain⟨e1,e2⟩:=list_slots σ;have hused:(σ.used:Int)=(σ.slots:Int) - (σ.list.free.length:Int) - (σ.worn:Int):=by unfold St.used;rw[e1];omega
 rw[hused];have HF:=zH (pool_free hR.drew hm hn);have n1:IntKind.i64.wrap ((σ.slots:Int) - (σ.list.free.length:Int))=(σ.slots:Int) - (σ.list.free.length:Int):=by rw[IntKind.wrap_i64];omega
 have n2:IntKind.i64.wrap ((σ.slots:Int) - (σ.list.free.length:Int) - (σ.worn:Int))=(σ.slots:Int) - (σ.list.free.length:Int) - (σ.worn:Int):=by rw[IntKind.wrap_i64];omega
 have HC:Hid (∀ A' w',PoolOnly A A'→Rep A' σ.list w'→w'.cell? ⟨A.bp,0,none⟩=some (.slice (some ⟨A.bs,0,none⟩) σ.slots σ.slots)∧w'.cell? ⟨A.bp,3,none⟩=some (zi (σ.worn:Int))):=by
  rintro A' w' ⟨⟨L,vf,m,rfl⟩,_⟩ r;have h0:=r.pool 0 (v:=.slice (some ⟨A.bs,0,none⟩) σ.list.slots σ.list.slots) rfl;have h3:=r.pool 3 (v:=zi (σ.list.worn:Int)) rfl;rw[e1] at h0;rw[e2] at h3;exact⟨h0,h3⟩
 clear hR hm hn hu hsl e1 e2 hused;generalize (σ.list.free.length:Int)=fl at*;generalize (σ.worn:Int)=wn at*;go_enter Tryz.func75,Tryz.ntmps75;go_wp2_with fail
 go_region_held3 (fun w'=>w'.cell? ⟨A.bp,0,none⟩=some (.slice (some ⟨A.bs,0,none⟩) σ.slots σ.slots)∧w'.cell? ⟨A.bp,3,none⟩=some (zi wn))
  (first|exact⟨c0,c3⟩|assumption|exact HC.out _ _ (by assumption) (by assumption))
  (first|(go_at_call 102;refine HF.out.mono ?_;rintro e w1 ⟨rfl,A',q1,q2,q3⟩))
 go_wp2_with fail;go_ret;exact⟨rfl,A',q1,q2,(Grow.drew _ _).trans q3⟩
theorem used_any (hR:Rep A σ w) (hm:A.mp=0) (hn:σ.free.length<100000) (hu:σ.list.free.length+σ.worn≤σ.slots):
 Calls Tryz.prog 36 #[.pointer (some ⟨A.be,0,none⟩)] w (Pooled A w σ.list (zi (σ.used:Int))):=by
 have c3:w.cell? ⟨A.be,3,none⟩=some (.pointer (some ⟨A.bp,0,none⟩)):=hR.eng 3 rfl;have HU:=zH (pool_used hR hm hn hu);clear hR hm hn hu;go_enter Tryz.func36,Tryz.ntmps36;go_wp2_with (go_at_call 75;refine HU.out.mono ?_;rintro e w1 ⟨rfl,A',q1,q2,q3⟩);go_ret;exact⟨rfl,A',q1,q2,q3⟩
theorem heap_setCells9 {w:World} {b:Nat} {a0 a1 a2 a3 a4 a5 a6 a7 a8:Value} {T:TypeId} (h:w.heap[b]? =some (.cells #[a0,a1,a2,a3,a4,a5,a6,a7,a8] T)) (v0 v1 v2 v3 v4 v5 v6 v7 v8:Value):(w.setCells b 0 [v0,v1,v2,v3,v4,v5,v6,v7,v8]).heap[b]? =some (.cells #[v0,v1,v2,v3,v4,v5,v6,v7,v8] T):=by
 have h0:=heap_setCell_same h 0 v0;have h1:=heap_setCell_same h0 1 v1;have h2:=heap_setCell_same h1 2 v2;have h3:=heap_setCell_same h2 3 v3;have h4:=heap_setCell_same h3 4 v4;have h5:=heap_setCell_same h4 5 v5;have h6:=heap_setCell_same h5 6 v6;have h7:=heap_setCell_same h6 7 v7;have h8:=heap_setCell_same h7 8 v8
 simpa [World.setCells] using h8
theorem Below.setCells9 {B b:Nat} {a w:World} (h:Below B a w) (hb:B≤b) (v0 v1 v2 v3 v4 v5 v6 v7 v8:Value):Below B a (w.setCells b 0 [v0,v1,v2,v3,v4,v5,v6,v7,v8]):=
 ((((((((h.setCell (p:=⟨b,0,none⟩) hb v0).setCell (p:=⟨b,1,none⟩) hb v1).setCell (p:=⟨b,2,none⟩) hb v2).setCell (p:=⟨b,3,none⟩) hb v3).setCell (p:=⟨b,4,none⟩) hb v4).setCell (p:=⟨b,5,none⟩) hb v5).setCell (p:=⟨b,6,none⟩) hb v6).setCell (p:=⟨b,7,none⟩) hb v7).setCell (p:=⟨b,8,none⟩) hb v8
def statusCs (x:Status):Array Value:=#[.bool x.live,.bool x.busy,.bool x.waits,zi (x.id:Int),zi (x.level:Int),zi (x.state:Int),zu (x.begin_:Int),zu (x.end_:Int),zi (x.ops:Int)]
theorem status_none (hR:Rep A σ w) (s:Nat) (hs:s<8) (ht:σ.txns.getD s none=none):
 Calls Tryz.prog 10 #[.pointer (some ⟨A.be,0,none⟩),zi (s:Int)] w fun e w'=>e=.returned (.agg #[.bool false,.bool false,.bool false,zi 0,zi 0,zi 0,zu 0,zu 0,zi 0])∧Below w.heap.size w w':=by
 have b1:(s:Int)<8:=by omega
 have b0:(0:Int)≤(s:Int):=by omega
 have hsok:=zH (sessionOk s hs);have r1:=hR.alloc (.cells #[.bool false,.bool false,.bool false,zi 0,zi 0,zi 0,zu 0,zu 0,zi 0] 42);have v5:=r1.eng (5+s) (engCs_txn A σ hs);rw[show A.tp σ s=.pointer none by unfold Book.tp;rw[ht]] at v5;clear hR hs ht r1;go_enter Tryz.func10,Tryz.ntmps10;go_wp2_with (go_at_call 40;refine (hsok.out _).mono ?_;rintro e w' ⟨rfl,rfl⟩)
 (try simp only[Exit.inBlock,Exit.then])
 refine bodyPost_ret (results_cell_row rfl _ _ w.heap.size 42 #[.bool false,.bool false,.bool false,zi 0,zi 0,zi 0,zu 0,zu 0,zi 0] _ _ rfl (heap_alloc_new w _) Tryz.underlying42 rfl (by kernel_rfl)) rfl ?_;exact⟨rfl,(Below.refl _ w).alloc (Nat.le_refl _) _⟩
theorem status_00 (hL:Live A σ w) (s:Nat) (hs:s<8) (t:Txn) (ht:σ.txns.getD s none=some t) (he:t.end_=0) (hc:σ.calls.getD s none=none):
 Calls Tryz.prog 10 #[.pointer (some ⟨A.be,0,none⟩),zi (s:Int)] w fun e w'=>e=.returned (.agg #[.bool true,.bool false,.bool false,zi (t.id:Int),zi (t.level:Int),zi 1,zu (t.begin_:Int),zu (t.end_:Int),zi (t.ops:Int)])∧Below w.heap.size w w':=by
 have hR:=hL.rep;have b1:(s:Int)<8:=by omega
 have b0:(0:Int)≤(s:Int):=by omega
 have hsok:=zH (sessionOk s hs);have r1:=hR.alloc (.cells #[.bool false,.bool false,.bool false,zi 0,zi 0,zi 0,zu 0,zu 0,zi 0] 42);have H1:Hid (∀ w',Below (w.alloc (.cells #[.bool false,.bool false,.bool false,zi 0,zi 0,zi 0,zu 0,zu 0,zi 0] 42)).heap.size (w.alloc (.cells #[.bool false,.bool false,.bool false,zi 0,zi 0,zi 0,zu 0,zu 0,zi 0] 42)) w'→w'.cell? ⟨A.be,5+s,none⟩=some (.pointer (some ⟨A.bt s,0,none⟩))∧w'.cell? ⟨A.be,13+s,none⟩=some (.pointer none)∧w'.cell? ⟨A.bt s,0,none⟩=some (zi (t.id:Int))∧w'.cell? ⟨A.bt s,1,none⟩=some (zi (t.level:Int))∧w'.cell? ⟨A.bt s,3,none⟩=some (zu (t.begin_:Int))∧w'.cell? ⟨A.bt s,4,none⟩=some (zu (t.end_:Int))∧w'.cell? ⟨A.bt s,5,none⟩=some (zi (t.ops:Int))):=by
  intro w' hb;have r:=r1.below hb;have h5:=r.eng (5+s) (engCs_txn A σ hs);rw[show A.tp σ s=.pointer (some ⟨A.bt s,0,none⟩) by unfold Book.tp;rw[ht]] at h5;have h13:=r.eng (13+s) (engCs_call A σ hs);rw[hL.idle s hs hc] at h13;exact⟨h5,h13,r.txn ht 0 rfl,r.txn ht 1 rfl,r.txn ht 3 rfl,r.txn ht 4 rfl,r.txn ht 5 rfl⟩
 obtain⟨v5,v13,t0,t1,t3,t4,t5⟩:=H1.out _ (Below.refl _ _);obtain⟨fe1,fe2,fe3,fe4,fe5⟩:=zeT (x:=t.end_) (c:=0) (ci:=0) (by omega);have ff1:decide ((0:Int)<(t.end_:Int))=false:=by simp<;>omega
 have ff2:((0:Int)<(t.end_:Int))=False:=by simp<;>omega
 have ff3:(0<t.end_)=False:=by simp<;>omega
 have ff4:decide (0<t.end_)=false:=by simp<;>omega
 clear hL hR hs ht r1 he;go_enter Tryz.func10,Tryz.ntmps10;go_wp2_with (go_at_call 40;refine (hsok.out _).mono ?_;rintro e w' ⟨rfl,rfl⟩);have HZ0:Hid ((w.alloc (.cells #[.bool false,.bool false,.bool false,zi 0,zi 0,zi 0,zu 0,zu 0,zi 0] 42)).heap[w.heap.size]? =some (.cells #[.bool false,.bool false,.bool false,zi 0,zi 0,zi 0,zu 0,zu 0,zi 0] 42)∧Below w.heap.size w (w.alloc (.cells #[.bool false,.bool false,.bool false,zi 0,zi 0,zi 0,zu 0,zu 0,zi 0] 42))∧w.heap.size<(w.alloc (.cells #[.bool false,.bool false,.bool false,zi 0,zi 0,zi 0,zu 0,zu 0,zi 0] 42)).heap.size):=⟨heap_alloc_new w _,(Below.refl _ w).alloc (Nat.le_refl _) _,by simp⟩
 clear v5 v13 t0 t1 t3 t4 t5;generalize hw0:w.alloc _=w0 at*;obtain⟨v5,v13,t0,t1,t3,t4,t5⟩:=H1.out w0 (Below.refl _ _)
 go_quiet (fail)
 clear v5 v13 t0 t1 t3 t4 t5;generalize hw5:w0.drewN _=w5;have hb5:Below w0.heap.size w0 w5:=by rw[←hw5];exact⟨rfl,rfl,rfl,Nat.le_refl _,fun _ _=>rfl⟩
 obtain⟨v5,v13,t0,t1,t3,t4,t5⟩:=H1.out w5 hb5;obtain⟨_,_,y0,y1,y3,y4,y5⟩:=H1.out (w5.alloc (.cells #[.bool false,.bool false,.bool false,zi 0,zi 0,zi 0,zu 0,zu 0,zi 0] 42)) (hb5.alloc hb5.size _);go_wp2_with fail
 go_region
 generalize hw6:World.drew _=w6;have F6:Fix (fun _=>none) w6 w5.heap.size (.cells #[.bool true,.bool false,.bool false,zi (t.id:Int),zi (t.level:Int),zi 1,zu (t.begin_:Int),zu (t.end_:Int),zi (t.ops:Int)] 42):=⟨rfl,by rw[←hw6];exact heap_alloc_new w5 _⟩
 have hb6:Below w0.heap.size w0 w6:=by rw[←hw6];exact (hb5.alloc hb5.size _).drew
 have hz6:w5.heap.size<w6.heap.size:=lt_of F6.2;have HB6:=zH (zA hb6 (zA F6 hb5.size));obtain⟨_,_,_,_,_,u4,_⟩:=H1.out w6 hb6;clear v5 v13 t0 t1 t3 t4 t5 y0 y1 y3 y4 y5;have s0:=F6.cell 0 (v:=.bool true) rfl;have s1:=F6.cell 1 (v:=.bool false) rfl;have s2:=F6.cell 2 (v:=.bool false) rfl;have s3:=F6.cell 3 (v:=zi (t.id:Int)) rfl;have s4:=F6.cell 4 (v:=zi (t.level:Int)) rfl;have s5:=F6.cell 5 (v:=zi 1) rfl;have s6:=F6.cell 6 (v:=zu (t.begin_:Int)) rfl;have s7:=F6.cell 7 (v:=zu (t.end_:Int)) rfl;have s8:=F6.cell 8 (v:=zi (t.ops:Int)) rfl;have z5:=F6.frozen 5;have f7:Fix (fun _=>none) w6 w5.heap.size (.cells #[.bool true,.bool false,.bool false,zi (t.id:Int),zi (t.level:Int),zi 1,zu (t.begin_:Int),zu (t.end_:Int),zi (t.ops:Int)] 42):=F6;have hb7:Below w0.heap.size w0 w6:=hb6;have hb8:Below w0.heap.size w0 w6:=hb7;have HTH:=zH (there_of (hb8.block w.heap.size HZ0.out.2.2 |>.trans HZ0.out.1));have hfin:=heap_setCells9 (hb8.block w.heap.size HZ0.out.2.2 |>.trans HZ0.out.1) (.bool true) (.bool false) (.bool false) (zi (t.id:Int)) (zi (t.level:Int)) (zi 1) (zu (t.begin_:Int)) (zu (t.end_:Int)) (zi (t.ops:Int));have HFN:=zH hfin;have HBL:=zH (Below.setCells9 (HZ0.out.2.1.trans (hb8.mono (Nat.le_of_lt HZ0.out.2.2))) (Nat.le_refl _) (.bool true) (.bool false) (.bool false) (zi (t.id:Int)) (zi (t.level:Int)) (zi 1) (zu (t.begin_:Int)) (zu (t.end_:Int)) (zi (t.ops:Int)));clear hfin;clear hb8 F6 hb6 f7 hb7 hw6;go_wp2_with (refine wpList_store_mid rfl 42 (.tmp 4) (.tmp 68) rfl w.heap.size 0 #[.bool true,.bool false,.bool false,zi (t.id:Int),zi (t.level:Int),zi 1,zu (t.begin_:Int),zu (t.end_:Int),zi (t.ops:Int)] rfl rfl HTH.out (by kernel_rfl) (by simp[Value.oneCell']) ?_;generalize hws:World.setCells _ _ _ _=ws);have hbut:Below w.heap.size w (w6.setCells w.heap.size 0 [.bool true,.bool false,.bool false,zi (t.id:Int),zi (t.level:Int),zi 1,zu (t.begin_:Int),zu (t.end_:Int),zi (t.ops:Int)]):=HBL.out;have hfin:=HFN.out;rw[show w6.setCells w.heap.size 0 [.bool true,.bool false,.bool false,zi (t.id:Int),zi (t.level:Int),zi 1,zu (t.begin_:Int),zu (t.end_:Int),zi (t.ops:Int)]=ws from hws] at hbut hfin
 (try simp only[Exit.inBlock,Exit.then])
 refine bodyPost_ret (results_cell_row rfl _ _ w.heap.size 42 #[.bool true,.bool false,.bool false,zi (t.id:Int),zi (t.level:Int),zi 1,zu (t.begin_:Int),zu (t.end_:Int),zi (t.ops:Int)] _ _ rfl hfin Tryz.underlying42 rfl (by kernel_rfl)) rfl ?_;exact⟨rfl,hbut⟩
end Go.Proofs.YthicolbbmjfkfaaGreat.Em
