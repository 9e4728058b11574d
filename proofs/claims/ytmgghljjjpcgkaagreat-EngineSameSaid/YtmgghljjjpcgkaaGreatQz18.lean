import Derived.Test.YtmgghljjjpcgkaaGreatQz17
import Derived.Test.YtmgghljjjpcgkaaGreatQz15
import Derived.Test.YtmgghljjjpcgkaaGreatQz16
namespace Go.Proofs.YtmgghljjjpcgkaaGreat.Em
open Go.ChangeShapes Go.WideShapes Go.ChangeAt Go.RowKit En
set_option linter.unusedVariables false
set_option linter.unusedSimpArgs false
set_option maxRecDepth 100000
set_option maxHeartbeats 1600000
def vl (σ:St) (l:Nat):Bool:=decide (1≤l % 131072)&&decide (l % 131072≤σ.slots)&&decide (l<18446744073709551616)
def vl0 (σ:St) (l:Nat):Bool:=l==0||vl σ l
def okPool (σ:St):Bool:=decide (σ.free.length<100000)&&σ.free.all (fun i=>decide (i<σ.slots))&&σ.tags.all (fun p=>decide (p.1≤65535))&&decide (σ.worn<1000000)
def okKeys (σ:St) (t:Txn):Bool:=t.keys.all fun key=>match t.cell key with|some x=>vl0 σ x.own&&vl0 σ x.old|none=>false
def okCels (σ:St) (t:Txn):Bool:=t.cells.all fun p=>!p.2.there||vl σ p.2.own
def okThn (σ:St) (s:Nat) (h:Hunt) (link:Nat):Bool:=decide ((σ.t s).reads.length<1000000)&&match h.thn with
 |.get=>vl0 σ link
 |.scan k=>decide (k=h.key)&&vl0 σ link&&decide (k≤63)&&decide ((σ.c s).op.hi≤63)&&okCels σ (σ.t s)&&decide ((σ.c s).r.pairs.length<90000)
 |.change=>decide ((σ.c s).op.key=h.key)
 |.judge i _=>decide (i+1≤(σ.t s).reads.length)
def small (σ:St) (i:Nat):Bool:=decide (σ.word i<18446744073709551616)
def okBinds (σ:St) (s:Nat):Bool:=decide ((σ.t s).bonds.length<1000000)&&decide (σ.tale.length<1000000)
def okK (σ:St) (s:Nat) (k:K):Bool:=
 decide (σ.count<3000000000000000000)&&match k with
 |.fin _=>true
 |.start h=>decide (h.key<64)&&(σ.word (9+h.key) !=0||okThn σ s h 0)
 |.visit h link=>vl σ link&&small σ (wslot link 0)
 |.older h link=>vl σ link&&(σ.word (wslot link 2) !=0||okThn σ s h 0)
 |.maker h link id=>decide (id≤2000)&&small σ (σ.place id)
 |.ended h link mb=>vl σ link&&small σ (wslot link 1)&&(mb !=0||okThn σ s h link)
 |.ender h link mb id=>decide (id≤2000)&&small σ (σ.place id)&&okBinds σ s&&(mb !=0||okThn σ s h link)
 |.seen h link mb=>decide (mb≤2000)&&small σ (σ.place mb)&&okBinds σ s&&okThn (if stateOf (σ.word (σ.place mb))=2 then σ.tick.bind s mb else σ.tick) s h link
 |.again _=>match (σ.t s).cell (σ.c s).op.key with|some x=>vl σ x.own|none=>false
 |.own link=>vl σ link&&small σ (wslot link 1)
 |.ownTxn _ _ id=>decide (id≤2000)&&small σ (σ.place id)
 |.claim link _=>vl σ link&&decide (1≤(σ.t s).id)&&decide ((σ.t s).id≤65535)&&((σ.t s).cell (σ.c s).op.key).isNone&&decide ((σ.t s).keys.length<1000000)&&okPool σ
 |.fresh link=>vl0 σ link&&decide ((σ.c s).op.key<64)&&okPool σ
 |.next link _ at_=>vl0 σ link&&vl σ at_&&okPool σ
 |.free link _ at_=>vl0 σ link&&vl σ at_&&okPool σ&&small σ (wslot at_ 0)
 |.freeTxn link _ _ id=>vl0 σ link&&decide (id≤2000)&&small σ (σ.place id)&&okPool σ
 |.slotB x link head=>vl σ link&&decide (1≤(σ.t s).id)&&decide ((σ.t s).id≤65535)
 |.slotE x link head=>vl σ link
 |.push link head=>vl σ link
 |.pushC link head=>decide ((σ.c s).op.key<64)&&((σ.t s).cell (σ.c s).op.key).isNone&&decide ((σ.t s).keys.length<1000000)
 |.over _=>decide ((σ.c s).op.key<64)
 |.overN link _=>vl σ link
 |.overC _ _=>decide ((σ.c s).op.key<64)&&((σ.t s).cell (σ.c s).op.key).isSome
 |.draw=>decide (σ.word 0<18446744073709551616)
 |.drawH x now=>decide (x<18446744073709551616)&&decide (lastOf x≤2000)
 |.turn x now=>decide (now<281474976710655)&&decide ((σ.t s).id<65536)&&decide (σ.tale.length<1000000)
 |.helpJ=>decide ((σ.t s).end_<281474976710656)&&decide ((σ.t s).id≤2000)&&decide ((σ.t s).reads.length<1000000)
 |.wait i=>match (σ.t s).bonds[i]? with|some bd=>decide (bd≤2000)&&small σ (σ.place bd)&&decide ((σ.t s).bonds.length<1000000)|none=>false
 |.commit=>decide ((σ.t s).end_≤1099511627776)&&decide ((σ.t s).id≤2000)&&decide ((σ.t s).keys.length<1000000)&&okKeys σ (σ.t s)&&decide (σ.tale.length<1000000)
 |.abort _ _=>decide ((σ.t s).end_≤1099511627776)&&decide (1≤(σ.t s).id)&&decide ((σ.t s).id≤2000)&&decide ((σ.t s).keys.length<1000000)&&okKeys σ (σ.t s)&&decide (σ.tale.length<1000000)
 |.turns [] r=>true
 |.turns (x::l) r=>decide (x.at_<σ.words.length)
theorem vl_iff {σ:St} {l:Nat} (h:vl σ l=true):VL σ l:=by
 unfold vl at h;simp only[Bool.and_eq_true,decide_eq_true_eq] at h;exact⟨h.1.1,h.1.2,h.2⟩
theorem vl0_iff {σ:St} {l:Nat} (h:vl0 σ l=true):l=0∨VL σ l:=by
 unfold vl0 at h;simp only[Bool.or_eq_true,beq_iff_eq] at h;exact h.imp id vl_iff
theorem okPool_iff {σ:St} (hn:σ.tags.length=σ.slots) (h:okPool σ=true):PoolOk σ:=by
 unfold okPool at h;simp only[Bool.and_eq_true,decide_eq_true_eq,List.all_eq_true] at h;refine⟨h.1.1.1,fun i hi=>by simpa using h.1.1.2 i hi,fun i hi=>?_,h.2⟩;have:(σ.tags.getD i (0,false))∈σ.tags:=by
  rw[List.getD_eq_getElem?_getD,List.getElem?_eq_getElem (by omega)];exact List.getElem_mem _
 simpa using h.1.2 _ this
theorem okKeys_iff {σ:St} {t:Txn} (h:okKeys σ t=true):KeysOk σ t:=by
 intro key hk;unfold okKeys at h;rw[List.all_eq_true] at h;have:=h key hk
 cases hc:t.cell key with
 |none=>rw[hc] at this;cases this
 |some x=>
  rw[hc] at this;simp only[Bool.and_eq_true] at this;exact⟨x,rfl,vl0_iff this.1,vl0_iff this.2⟩
theorem cel_mem {l:List (Nat×Cel)} {key:Nat} {x:Cel} (h:l.lookup key=some x):(key,x)∈l:=by
 induction l with
 |nil=>cases h
 |cons a l ih=>
  obtain⟨k,y⟩:=a;rw[List.lookup_cons] at h
  by_cases hk:key=k
  · subst hk
    simp at h;subst h;exact List.mem_cons_self
  · rw[beq_false_of_ne hk] at h
    exact List.mem_cons_of_mem _ (ih h)
theorem okCels_iff {σ:St} {t:Txn} (h:okCels σ t=true):CelsOk σ t:=by
 intro key x hx hth;unfold okCels at h;rw[List.all_eq_true] at h;have:=h _ (cel_mem hx);simp only[hth,Bool.not_true,Bool.false_or] at this;exact vl_iff this
theorem small_iff {σ:St} {i:Nat} (h:small σ i=true):σ.word i<18446744073709551616:=by unfold small at h;simpa using h
theorem place_lt {A:Book} {σ:St} {w:World} (hR:Rep A σ w) {id:Nat} (h:id≤2000):σ.place id<σ.words.length:=by rw[hR.nw];unfold St.place;omega
theorem func_inj {f f':FuncId} {b b' c c':Array Value} (h:Value.func (.func f) b c=.func (.func f') b' c'):f=f'∧b=b'∧c=c':=by
 simp only[Value.func.injEq,Fn.func.injEq] at h;exact h
theorem thn_to {σ:St} {s:Nat} {t:Txn} (ht:σ.txns.getD s none=some t) {c:Cal} (hc:σ.calls.getD s none=some c) {hu:Hunt} {link:Nat} (h:okThn σ s hu link=true):ThnTo σ s hu link:=by
 intro A w hR hmp w1 f cc r g hth;obtain⟨key,at_,thn⟩:=hu;unfold okThn at h;rw[txn_get ht,call_get hc,Bool.and_eq_true,decide_eq_true_eq] at h;obtain⟨hrl,h⟩:=h
 cases thn<;>simp only[Bool.and_eq_true,decide_eq_true_eq] at h
 case get=>
  obtain⟨b0,b1,b2,b3,e,k0,k1,k2,k3⟩:=hth;obtain⟨rfl,-,rfl⟩:=func_inj e;exact k_get r s t ht key link b0 b1 b2 b3 k0 k1 k2 k3 at_ (vl0_iff h) hrl
 case scan k=>
  obtain⟨⟨⟨⟨⟨rfl,h1⟩,h2⟩,h3⟩,h4⟩,h5⟩:=h;obtain⟨b0,b1,b2,b3,b4,e,k0,k1,k2,k3,k4⟩:=hth;obtain⟨rfl,-,rfl⟩:=func_inj e;exact k_scan r s t ht c hc k link at_ b0 b1 b2 b3 b4 k0 k1 k2 k3 k4 (vl0_iff h1) h2 h3 (okCels_iff h4) (by omega) hrl
 case change=>
  obtain⟨b0,b1,b2,b3,e,k0,k1,k2,k3⟩:=hth;obtain⟨rfl,-,rfl⟩:=func_inj e;exact k_change r s t ht c hc key link b0 b1 b2 b3 h k0 k1 k2 k3 at_ hrl
 case judge i l=>
  obtain⟨b0,b1,b2,b3,b4,e,k0,k1,k2,k3,k4⟩:=hth;obtain⟨rfl,-,rfl⟩:=func_inj e;exact k_judge r s t ht i l at_ key link b0 b1 b2 b3 b4 k0 k1 k2 k3 k4 h hrl
theorem bind_has {σ:St} {s to:Nat} {t:Txn} (ht:σ.txns.getD s none=some t):∃ t',(σ.bind s to).txns.getD s none=some t':=by
 unfold St.bind;rw[txn_get ht]
 split
 · exact⟨t,ht⟩
 · exact⟨{t with bonds:=t.bonds++[to]},by show (σ.setT s _).txns.getD s none=_;rw[getT_set (lt_of_txn ht),if_pos rfl]⟩
theorem bind_calls (σ:St) (s to:Nat):(σ.bind s to).calls=σ.calls:=by unfold St.bind;split<;>rfl
set_option maxHeartbeats 4000000 in
theorem runsTo {σ:St} {s:Nat} (hs:s<8) {t:Txn} (ht:σ.txns.getD s none=some t) {c:Cal} (hc:σ.calls.getD s none=some c) (k:K) (h:okK σ s k=true):RunsTo σ s k:=by
 intro A w1 f b cc hR hmp hmt hk;unfold okK at h;rw[Bool.and_eq_true,decide_eq_true_eq] at h;obtain⟨hcnt0,h⟩:=h;have hcnt:σ.count<4000000000000000000:=by omega
 have et:=txn_get ht;have ec:=call_get hc
 cases k
 case fin r=>
  obtain⟨b0,b1,b2,e,k0,k1,k2⟩:=hk;obtain⟨rfl,rfl,rfl⟩:=func_inj e;exact k_fin hR s c hc r b0 b1 b2 k0 k1 k2
 case start hu=>
  obtain⟨bh,e,k0⟩:=hk;obtain⟨rfl,rfl,rfl⟩:=func_inj e;simp only[Bool.and_eq_true,decide_eq_true_eq,Bool.or_eq_true,bne_iff_ne] at h;exact k_start hR s hu bh k0 h.1 hcnt fun hz w2 r2 g2=>thn_to (σ:=σ.tick) ht hc (h.2.resolve_left (fun hne=>hne hz)) A w2 r2 hmp
 case visit hu link=>
  obtain⟨b0,b1,e,k0,k1⟩:=hk;obtain⟨rfl,rfl,rfl⟩:=func_inj e;simp only[et,ec,Bool.and_eq_true,decide_eq_true_eq,Bool.or_eq_true,bne_iff_ne,Option.isNone_iff_eq_none,Option.isSome_iff_exists] at h;obtain⟨h1,h2⟩:=h;exact k_visit hR s t ht hu link b0 b1 k0 k1 (vl_iff h1).lo (vl_iff h1).hi (vl_iff h1).u (small_iff h2) hcnt
 case older hu link=>
  obtain⟨b0,b1,e,k0,k1⟩:=hk;obtain⟨rfl,rfl,rfl⟩:=func_inj e;simp only[et,ec,Bool.and_eq_true,decide_eq_true_eq,Bool.or_eq_true,bne_iff_ne,Option.isNone_iff_eq_none,Option.isSome_iff_exists] at h;obtain⟨h1,h2⟩:=h;exact k_older hR s hmp hu link b0 b1 k0 k1 (vl_iff h1) hcnt (fun hz=>thn_to (σ:=σ.tick) ht hc (h2.resolve_left (fun hne=>hne hz)))
 case maker hu link id=>
  obtain⟨b0,b1,b2,e,k0,k1,k2⟩:=hk;obtain⟨rfl,rfl,rfl⟩:=func_inj e;simp only[et,ec,Bool.and_eq_true,decide_eq_true_eq,Bool.or_eq_true,bne_iff_ne,Option.isNone_iff_eq_none,Option.isSome_iff_exists] at h;obtain⟨h1,h2⟩:=h;exact k_maker hR s hu link id b0 b1 b2 k0 k1 k2 (by omega) (place_lt hR h1) (small_iff h2) hcnt
 case ended hu link mb=>
  obtain⟨b0,b1,b2,e,k0,k1,k2⟩:=hk;obtain⟨rfl,rfl,rfl⟩:=func_inj e;simp only[et,ec,Bool.and_eq_true,decide_eq_true_eq,Bool.or_eq_true,bne_iff_ne,Option.isNone_iff_eq_none,Option.isSome_iff_exists] at h;obtain⟨⟨h1,h2⟩,h3⟩:=h;exact k_ended hR s hmp t ht hu link mb b0 b1 b2 k0 k1 k2 (vl_iff h1) (small_iff h2) hcnt (fun hz=>thn_to (σ:=σ.tick) ht hc (h3.resolve_left (fun hne=>hne hz)))
 case ender hu link mb id=>
  obtain⟨b0,b1,b2,b3,e,k0,k1,k2,k3⟩:=hk;obtain⟨rfl,rfl,rfl⟩:=func_inj e;simp only[et,ec,Bool.and_eq_true,decide_eq_true_eq,Bool.or_eq_true,bne_iff_ne,Option.isNone_iff_eq_none,Option.isSome_iff_exists] at h;unfold okBinds at h;simp only[et,Bool.and_eq_true,decide_eq_true_eq] at h;obtain⟨⟨⟨h1,h2⟩,h3,h4⟩,h5⟩:=h;exact k_ender hR s hmp t ht hu link mb id b0 b1 b2 b3 k0 k1 k2 k3 (by omega) (place_lt hR h1) (small_iff h2) h3 h4 hcnt (fun hz=>thn_to (σ:=σ.tick) ht hc (h5.resolve_left (fun hne=>hne hz)))
 case seen hu link mb=>
  obtain⟨b0,b1,b2,e,k0,k1,k2⟩:=hk;obtain⟨rfl,rfl,rfl⟩:=func_inj e;simp only[et,ec,Bool.and_eq_true,decide_eq_true_eq,Bool.or_eq_true,bne_iff_ne,Option.isNone_iff_eq_none,Option.isSome_iff_exists] at h;unfold okBinds at h;simp only[et,Bool.and_eq_true,decide_eq_true_eq] at h;obtain⟨⟨⟨h1,h2⟩,h3,h4⟩,h5⟩:=h;have hthn:ThnTo (if stateOf (σ.word (σ.place mb))=2 then σ.tick.bind s mb else σ.tick) s hu link:=by
   split at h5
   · rename_i hq
     rw[if_pos hq];obtain⟨t',ht'⟩:=bind_has (σ:=σ.tick) (to:=mb) ht;exact thn_to ht' (by rw[bind_calls];exact hc) h5
   · rename_i hq
     rw[if_neg hq];exact thn_to (σ:=σ.tick) ht hc h5
  exact k_seen hR s hmp t ht hu link mb b0 b1 b2 k0 k1 k2 (by omega) (place_lt hR h1) (small_iff h2) h3 h4 hcnt hthn (fun _ _=>trivial)
 case again en=>
  obtain⟨b0,b1,b2,b3,e,k0,k1,k2,k3⟩:=hk;obtain⟨rfl,rfl,rfl⟩:=func_inj e;simp only[et,ec,Bool.and_eq_true,decide_eq_true_eq,Bool.or_eq_true,bne_iff_ne,Option.isNone_iff_eq_none,Option.isSome_iff_exists] at h
  cases hx:t.cell c.op.key with
  |none=>rw[hx] at h;cases h
  |some x=>
  rw[hx] at h
  by_cases hkd:c.op.kind=4
  · exact k_again_del hR s t ht c hc en x hx (vl_iff h) hkd hcnt b0 b1 b2 b3 k0 k1 k2 k3
  exact k_again_put hR s t ht c hc en x hx (vl_iff h) hkd hcnt b0 b1 b2 b3 k0 k1 k2 k3
 case own link=>
  obtain⟨b0,b1,b2,b3,e,k0,k1,k2,k3⟩:=hk;obtain⟨rfl,rfl,rfl⟩:=func_inj e;simp only[et,ec,Bool.and_eq_true,decide_eq_true_eq,Bool.or_eq_true,bne_iff_ne,Option.isNone_iff_eq_none,Option.isSome_iff_exists] at h;obtain⟨h1,h2⟩:=h;exact k_own hR s t ht link (vl_iff h1) (small_iff h2) hcnt b0 b1 b2 b3 k0 k1 k2 k3
 case ownTxn link x1 id=>
  obtain⟨b0,b1,b2,b3,b4,b5,e,k0,k1,k2,k3,k4,k5⟩:=hk;obtain⟨rfl,rfl,rfl⟩:=func_inj e;simp only[et,ec,Bool.and_eq_true,decide_eq_true_eq,Bool.or_eq_true,bne_iff_ne,Option.isNone_iff_eq_none,Option.isSome_iff_exists] at h;obtain⟨h1,h2⟩:=h;exact k_ownTxn hR s link x1 id (by omega) (place_lt hR h1) (small_iff h2) hcnt b0 b1 b2 b3 b4 b5 k0 k1 k2 k3 k4 k5
 case claim link x1=>
  obtain⟨b0,b1,b2,b3,b4,e,k0,k1,k2,k3,k4⟩:=hk;obtain⟨rfl,rfl,rfl⟩:=func_inj e;simp only[et,ec,Bool.and_eq_true,decide_eq_true_eq,Bool.or_eq_true,bne_iff_ne,Option.isNone_iff_eq_none,Option.isSome_iff_exists] at h;obtain⟨⟨⟨⟨⟨h1,h2⟩,h3⟩,h4⟩,h5⟩,h6⟩:=h;exact k_claim hR s t ht c hc hmp link x1 (vl_iff h1) h2 h3 h4 h5 (okPool_iff hR.nt h6) hcnt b0 b1 b2 b3 b4 k0 k1 k2 k3 k4
 case fresh link=>
  obtain⟨b0,b1,b2,b3,e,k0,k1,k2,k3⟩:=hk;obtain⟨rfl,rfl,rfl⟩:=func_inj e;simp only[et,ec,Bool.and_eq_true,decide_eq_true_eq,Bool.or_eq_true,bne_iff_ne,Option.isNone_iff_eq_none,Option.isSome_iff_exists] at h;obtain⟨⟨h1,h2⟩,h3⟩:=h;exact k_fresh hR s c hc link (vl0_iff h1) h2 hmp (okPool_iff hR.nt h3) hcnt b0 b1 b2 b3 k0 k1 k2 k3
 case next link hd at_=>
  obtain⟨b0,b1,b2,b3,b4,b5,e,k0,k1,k2,k3,k4,k5⟩:=hk;obtain⟨rfl,rfl,rfl⟩:=func_inj e;simp only[et,ec,Bool.and_eq_true,decide_eq_true_eq,Bool.or_eq_true,bne_iff_ne,Option.isNone_iff_eq_none,Option.isSome_iff_exists] at h;obtain⟨⟨h1,h2⟩,h3⟩:=h;exact k_next hR s c hc link hd at_ (vl0_iff h1) (vl_iff h2) hmp (okPool_iff hR.nt h3) hcnt b0 b1 b2 b3 b4 b5 k0 k1 k2 k3 k4 k5
 case free link hd at_=>
  obtain⟨b0,b1,b2,b3,b4,b5,e,k0,k1,k2,k3,k4,k5⟩:=hk;obtain⟨rfl,rfl,rfl⟩:=func_inj e;simp only[et,ec,Bool.and_eq_true,decide_eq_true_eq,Bool.or_eq_true,bne_iff_ne,Option.isNone_iff_eq_none,Option.isSome_iff_exists] at h;obtain⟨⟨⟨h1,h2⟩,h3⟩,h4⟩:=h;exact k_free hR s t ht link hd at_ (vl0_iff h1) (vl_iff h2) (okPool_iff hR.nt h3) (small_iff h4) hcnt b0 b1 b2 b3 b4 b5 k0 k1 k2 k3 k4 k5
 case freeTxn link hd at_ id=>
  obtain⟨b0,b1,b2,b3,b4,b5,e,k0,k1,k2,k3,k4,k5⟩:=hk;obtain⟨rfl,rfl,rfl⟩:=func_inj e;simp only[et,ec,Bool.and_eq_true,decide_eq_true_eq,Bool.or_eq_true,bne_iff_ne,Option.isNone_iff_eq_none,Option.isSome_iff_exists] at h;obtain⟨⟨⟨h1,h2⟩,h3⟩,h4⟩:=h;exact k_freeTxn hR s t ht link hd at_ id (vl0_iff h1) (by omega) (place_lt hR h2) (small_iff h3) (okPool_iff hR.nt h4) hcnt b0 b1 b2 b3 b4 b5 k0 k1 k2 k3 k4 k5
 case slotB x link hd=>
  obtain⟨b0,b1,b2,b3,b4,b5,e,k0,k1,k2,k3,k4,k5⟩:=hk;obtain⟨rfl,rfl,rfl⟩:=func_inj e;simp only[et,ec,Bool.and_eq_true,decide_eq_true_eq,Bool.or_eq_true,bne_iff_ne,Option.isNone_iff_eq_none,Option.isSome_iff_exists] at h;obtain⟨⟨h1,h2⟩,h3⟩:=h;exact k_slotB hR s t ht b0 b1 b2 b3 b4 b5 x link hd k0 k1 k2 k3 k4 k5 hcnt (vl_iff h1) h2 h3
 case slotE x link hd=>
  obtain⟨b0,b1,b2,b3,b4,b5,e,k0,k1,k2,k3,k4,k5⟩:=hk;obtain⟨rfl,rfl,rfl⟩:=func_inj e;exact k_slotE hR s t ht x link hd hcnt (vl_iff h) b0 b1 b2 b3 b4 b5 k0 k1 k2 k3 k4 k5
 case push link hd=>
  obtain⟨b0,b1,b2,b3,b4,e,k0,k1,k2,k3,k4⟩:=hk;obtain⟨rfl,rfl,rfl⟩:=func_inj e;exact k_push hR s t ht b0 b1 b2 b3 b4 link hd k0 k1 k2 k3 k4 hcnt (vl_iff h)
 case pushC link hd=>
  obtain⟨b0,b1,b2,b3,b4,e,k0,k1,k2,k3,k4⟩:=hk;obtain⟨rfl,rfl,rfl⟩:=func_inj e;simp only[et,ec,Bool.and_eq_true,decide_eq_true_eq,Bool.or_eq_true,bne_iff_ne,Option.isNone_iff_eq_none,Option.isSome_iff_exists] at h;obtain⟨⟨h1,h2⟩,h3⟩:=h;exact k_pushC hR s t ht c hc link hd h1 h2 h3 hcnt b0 b1 b2 b3 b4 k0 k1 k2 k3 k4
 case over link=>
  obtain⟨b0,b1,b2,b3,b4,e,k0,k1,k2,k3,k4⟩:=hk;obtain⟨rfl,rfl,rfl⟩:=func_inj e;simp only[et,ec,Bool.and_eq_true,decide_eq_true_eq,Bool.or_eq_true,bne_iff_ne,Option.isNone_iff_eq_none,Option.isSome_iff_exists] at h;exact k_over hR s c hc link h hcnt b0 b1 b2 b3 b4 k0 k1 k2 k3 k4
 case overN link hd=>
  obtain⟨b0,b1,b2,b3,b4,b5,e,k0,k1,k2,k3,k4,k5⟩:=hk;obtain⟨rfl,rfl,rfl⟩:=func_inj e;exact k_overN hR s t ht b0 b1 b2 b3 b4 b5 link hd k0 k1 k2 k3 k4 k5 hcnt (vl_iff h)
 case overC link hd=>
  obtain⟨b0,b1,b2,b3,b4,b5,e,k0,k1,k2,k3,k4,k5⟩:=hk;obtain⟨rfl,rfl,rfl⟩:=func_inj e;simp only[et,ec,Bool.and_eq_true,decide_eq_true_eq,Bool.or_eq_true,bne_iff_ne,Option.isNone_iff_eq_none,Option.isSome_iff_exists] at h;obtain⟨h1,x,hx⟩:=h;exact k_overC hR s t ht c hc link hd h1 x hx hcnt b0 b1 b2 b3 b4 b5 k0 k1 k2 k3 k4 k5
 case draw=>
  obtain⟨b0,b1,b2,e,k0,k1,k2⟩:=hk;obtain⟨rfl,rfl,rfl⟩:=func_inj e;simp only[et,ec,Bool.and_eq_true,decide_eq_true_eq,Bool.or_eq_true,bne_iff_ne,Option.isNone_iff_eq_none,Option.isSome_iff_exists] at h;exact k_draw hR s h hcnt b0 b1 b2 k0 k1 k2
 case drawH x now=>
  obtain⟨b0,b1,b2,e,k0,k1,k2⟩:=hk;obtain⟨rfl,rfl,rfl⟩:=func_inj e;simp only[et,ec,Bool.and_eq_true,decide_eq_true_eq,Bool.or_eq_true,bne_iff_ne,Option.isNone_iff_eq_none,Option.isSome_iff_exists] at h;obtain⟨h1,h2⟩:=h;exact k_drawH hR s x now h1 h2 hcnt b0 b1 b2 k0 k1 k2
 case turn x now=>
  obtain⟨b0,b1,b2,b3,b4,e,k0,k1,k2,k3,k4⟩:=hk;obtain⟨rfl,rfl,rfl⟩:=func_inj e;simp only[et,ec,Bool.and_eq_true,decide_eq_true_eq,Bool.or_eq_true,bne_iff_ne,Option.isNone_iff_eq_none,Option.isSome_iff_exists] at h;obtain⟨⟨h1,h2⟩,h3⟩:=h;exact k_turn hR s t ht x now h1 h2 h3 hcnt b0 b1 b2 b3 b4 k0 k1 k2 k3 k4
 case helpJ=>
  obtain⟨b0,b1,b2,e,k0,k1,k2⟩:=hk;obtain⟨rfl,rfl,rfl⟩:=func_inj e;simp only[et,ec,Bool.and_eq_true,decide_eq_true_eq,Bool.or_eq_true,bne_iff_ne,Option.isNone_iff_eq_none,Option.isSome_iff_exists] at h;obtain⟨⟨h1,h2⟩,h3⟩:=h;exact k_helpJ hR s t ht h1 h2 h3 hcnt b0 b1 b2 k0 k1 k2
 case wait i=>
  obtain⟨b0,b1,b2,b3,b4,e,k0,k1,k2,k3,k4⟩:=hk;obtain⟨rfl,rfl,rfl⟩:=func_inj e;simp only[et,ec,Bool.and_eq_true,decide_eq_true_eq,Bool.or_eq_true,bne_iff_ne,Option.isNone_iff_eq_none,Option.isSome_iff_exists] at h
  cases hb:t.bonds[i]? with
  |none=>rw[hb] at h;cases h
  |some bd=>
  rw[hb] at h;simp only[Bool.and_eq_true,decide_eq_true_eq] at h;obtain⟨⟨h1,h2⟩,h3⟩:=h;exact k_wait hR s t ht c hc i bd hb h3 (by omega) (place_lt hR h1) (small_iff h2) hcnt b0 b1 b2 b3 b4 k0 k1 k2 k3 k4
 case commit=>
  obtain⟨b0,b1,b2,e,k0,k1,k2⟩:=hk;obtain⟨rfl,rfl,rfl⟩:=func_inj e;simp only[et,ec,Bool.and_eq_true,decide_eq_true_eq,Bool.or_eq_true,bne_iff_ne,Option.isNone_iff_eq_none,Option.isSome_iff_exists] at h;obtain⟨⟨⟨⟨h1,h2⟩,h3⟩,h4⟩,h5⟩:=h;exact k_commit hR s t ht hmt h1 h2 h3 (okKeys_iff h4) h5 hcnt b0 b1 b2 k0 k1 k2
 case abort er re=>
  obtain⟨b0,b1,b2,b3,b4,e,k0,k1,k2,k3,k4⟩:=hk;obtain⟨rfl,rfl,rfl⟩:=func_inj e;simp only[et,ec,Bool.and_eq_true,decide_eq_true_eq,Bool.or_eq_true,bne_iff_ne,Option.isNone_iff_eq_none,Option.isSome_iff_exists] at h;obtain⟨⟨⟨⟨⟨h1,h2⟩,h3⟩,h4⟩,h5⟩,h6⟩:=h;exact k_abort hR s t ht hmt er re h1 h2 h3 h4 (okKeys_iff h5) h6 hcnt b0 b1 b2 b3 b4 k0 k1 k2 k3 k4
 case turns l r=>
  cases l with
  |nil=>
   obtain⟨b0,b1,b2,b3,e,k0,k1,k2,k3⟩:=hk;obtain⟨rfl,rfl,rfl⟩:=func_inj e;exact k_turnsE hR s t ht c hc r hs hcnt b0 b1 b2 b3 k0 k1 k2 k3
  |cons x l=>
   obtain⟨b0,b1,b2,b3,b4,e,k0,k1,k2,k3,k4⟩:=hk;obtain⟨rfl,rfl,rfl⟩:=func_inj e;simp only[decide_eq_true_eq] at h;exact k_turnsC hR s c hc x l r h hcnt b0 b1 b2 b3 b4 k0 k1 k2 k3 k4
def okFirst (σ:St) (s:Nat):Bool:=match (σ.c s).op.kind with
 |6=>true
 |7=>true
 |1=>match (σ.t s).cell (σ.c s).op.key with|none=>true|some x=>!x.there||vl σ x.own
 |5=>decide ((σ.c s).op.key≤63)&&decide ((σ.c s).op.hi≤63)&&okCels σ (σ.t s)&&decide ((σ.c s).r.pairs.length<90000)
 |2=>okWrite σ s
 |3=>okWrite σ s
 |4=>okWrite σ s
 |_=>false
where okWrite (σ:St) (s:Nat):Bool:=match (σ.t s).cell (σ.c s).op.key with|none=>true|some _=>decide (1≤(σ.t s).id)&&decide ((σ.t s).id≤65535)&&okPool σ
theorem firstTo {σ:St} {s:Nat} {t:Txn} (ht:σ.txns.getD s none=some t) {c:Cal} (hc:σ.calls.getD s none=some c) (h:okFirst σ s=true):FirstTo σ s:=by
 intro A w hR hmp;have et:=txn_get ht;have ec:=call_get hc;unfold okFirst okFirst.okWrite at h;rw[et,ec] at h;have hret:∀ r,∀ e w',Tells A w s r e w'→∃ v,e=.returned v:=fun r e w' ⟨_,v,hv,_⟩=>⟨v,hv⟩
 refine first_tells hR s c hc _ (fun hk=>?_) (fun hk=>?_) (fun hk=>?_) (fun hk=>?_) (fun k1 k5 k6 k7=>?_) (hret _)
 · rw[hk] at h
   simp only at h
   cases hx:t.cell c.op.key with
   |none=>
    have e:σ.first s=(σ,.start ⟨c.op.key,t.begin_,.get⟩):=by unfold St.first;rw[ec,et];simp only[hk,hx]
    rw[e];exact get_none hR s t ht c hc hx
   |some x=>
    rw[hx] at h;have e:σ.first s=(σ,if x.there then .fin {value:=σ.valueOf x.own} else .fin {e:=11}):=by unfold St.first;rw[ec,et];simp only[hk,hx]
    rw[e]
    cases hth:x.there with
    |true=>
     simp only[hth,Bool.not_true,Bool.false_or] at h;rw[if_pos rfl];exact get_there hR s t ht c hc x hx hth (vl_iff h)
    |false=>
     rw[if_neg (by decide)];exact get_gone hR s t ht c hc x hx hth
 · rw[hk] at h
   simp only[Bool.and_eq_true,decide_eq_true_eq] at h;obtain⟨⟨⟨h1,h2⟩,h3⟩,h4⟩:=h;have e:σ.first s=σ.scan s c.op.key:=by unfold St.first;rw[ec];simp only[hk]
   rw[e];exact scan_any hR s t ht c hc c.op.key (by omega) h2 (okCels_iff h3) (by omega)
 · have e:σ.first s=(σ,.draw):=by unfold St.first;rw[ec];simp only[hk]
   rw[e];exact draw_any hR s
 · have e:σ.first s=(σ,.abort 0 1):=by unfold St.first;rw[ec];simp only[hk]
   rw[e];exact abort_any hR s 0 1
 · have hx:(match t.cell c.op.key with|none=>true|some _=>decide (1≤t.id)&&decide (t.id≤65535)&&okPool σ)=true∧(c.op.kind=2∨c.op.kind=3∨c.op.kind=4):=by
    split at h
    · omega
    · omega
    · omega
    · omega
    · rename_i hk;exact⟨h,.inl hk⟩
    · rename_i hk;exact⟨h,.inr (.inl hk)⟩
    · rename_i hk;exact⟨h,.inr (.inr hk)⟩
    · cases h
   obtain⟨hx1,hkk⟩:=hx
   cases hx:t.cell c.op.key with
   |none=>
    have e:σ.first s=(σ,.start ⟨c.op.key,t.begin_,.change⟩):=by
     rcases hkk with hk|hk|hk<;>(unfold St.first;rw[ec,et];simp only[hk,hx])
    rw[e];exact change_none hR s t ht c hc hx
   |some x=>
    rw[hx] at hx1;simp only[Bool.and_eq_true,decide_eq_true_eq] at hx1;have e:σ.first s=againK σ s t x c.op.kind:=by
     rcases hkk with hk|hk|hk<;>(unfold St.first againK;rw[ec,et];simp only[hk,hx])
    rw[e];exact change_some hR s t ht c hc hmp x hx hx1.1.1 hx1.1.2 (okPool_iff hR.nt hx1.2)
def okOthers (σ σ2:St) (s:Nat):Bool:=decide (σ.calls.length=8)&&decide (σ2.calls.length=8)&&(List.range 8).all fun q=>q==s||decide (σ2.calls.getD q none=σ.calls.getD q none)
theorem okOthers_iff {σ σ2:St} {s:Nat} (h:okOthers σ σ2 s=true):∀ q,q≠s→σ2.calls.getD q none=σ.calls.getD q none:=by
 intro q hq;unfold okOthers at h;simp only[Bool.and_eq_true,decide_eq_true_eq,List.all_eq_true,List.mem_range,Bool.or_eq_true,beq_iff_eq] at h
 by_cases h8:q<8
 · exact (h.2 q h8).resolve_left hq
 · simp[List.getD_eq_getElem?_getD,List.getElem?_eq_none (show σ2.calls.length≤q by omega),List.getElem?_eq_none (show σ.calls.length≤q by omega)]
def afterStep (σ:St) (s:Nat) (σ2:St) (ok:Option K) (c2:Cal):Option (St×Nat×Res):=
 match ok with
 |some k'=>if c2.over=false then some ({σ2.setC s {c2 with k:=some k'} with looks:=σ2.looks+(σ2.count - σ.count)},if c2.waits then 2 else 1,{}) else none
 |none=>
  if c2.waits=false∧c2.over=true∧c2.r.pairs.length≤1000000 then
   if c2.r.over=0 then
    match σ2.txns.getD s none with
    |some t2=>if σ2.tale.length<1000000 then some (({σ2.setC s {c2 with k:=none} with looks:=σ2.looks+(σ2.count - σ.count),calls:=(σ2.setC s {c2 with k:=none}).calls.set s none}:St).event {kind:=2,t:=t2.id,op:=c2.op,res:=c2.r},3,c2.r) else none
    |none=>none
   else if c2.r.pairs=[] then some ({σ2.setC s {c2 with k:=none} with looks:=σ2.looks+(σ2.count - σ.count),calls:=(σ2.setC s {c2 with k:=none}).calls.set s none,txns:=σ2.txns.set s none},3,c2.r) else none
  else none
def oneStep (σ:St) (s:Nat):Option (St×Nat×Res):=
 match σ.txns.getD s none,σ.calls.getD s none with
 |some t,some c=>
  match c.k with
  |some k=>
   match (σ.setC s {c with waits:=false}).run s k with
   |(σ2,ok)=>
    match σ2.calls.getD s none with
    |some c2=>
     if okK (σ.setC s {c with waits:=false}) s k=true∧okOthers σ σ2 s=true∧σ.count≤σ2.count∧σ2.count - σ.count<1000000∧σ2.looks<1000000000000000000∧σ.count<3000000000000000000 then afterStep σ s σ2 ok c2 else none
    |none=>none
  |none=>none
 |_,_=>none
theorem step_calls {A:Book} {σ:St} {w:World} (hL:Live A σ w) {s:Nat} (hs:s<8) {σ':St} {kd:Nat} {r:Res} (h:oneStep σ s=some (σ',kd,r)):
 Calls Tryz.prog 23 #[.pointer (some ⟨A.be,0,none⟩),zi (s:Int)] w (Stepped A w σ' (kd:Int) r):=by
 unfold oneStep at h
 split at h
 · rename_i t c ht hc
   split at h
   · rename_i k hk
     split at h
     rename_i σ2 ok hrun
     split at h
     · rename_i c2 hc2
       split at h
       · rename_i hh
         obtain⟨h1,h2,h3,h4,h5,h6⟩:=hh;have hc1:(σ.setC s {c with waits:=false}).calls.getD s none=some {c with waits:=false}:=by rw[getC_set (lt_of_call hc),if_pos rfl]
         have hRT:=runsTo hs (σ:=σ.setC s {c with waits:=false}) (t:=t) ht hc1 k h1;have hdl:σ2.count=σ.count+(σ2.count - σ.count):=by omega
         have hcq:=okOthers_iff h2;unfold afterStep at h
         cases ok with
         |some k'=>
          simp only at h
          split at h
          · rename_i hov
            simp only[Option.some.injEq,Prod.mk.injEq] at h;obtain⟨rfl,rfl,rfl⟩:=h;have:=step_go hL s hs t ht c hc k hk h6 σ2 _ hrun hRT c2 hc2 _ hdl h4 h5 hcq k' rfl hov
            cases hw:c2.waits<;>(rw[hw] at this;simpa [hw] using this)
          · cases h
         |none=>
          simp only at h
          split at h
          · rename_i hh
            obtain⟨hw,hov,hpr⟩:=hh
            split at h
            · rename_i hro
              split at h
              · rename_i t2 ht2
                split at h
                · rename_i htl
                  simp only[Option.some.injEq,Prod.mk.injEq] at h;obtain⟨rfl,rfl,rfl⟩:=h;exact step_pairs hL s hs t ht c hc k hk h6 σ2 _ hrun hRT c2 hc2 _ hdl h4 h5 hcq t2 ht2 htl rfl hw hov hpr hro
                · cases h
              · cases h
            · rename_i hro
              split at h
              · rename_i hpe
                simp only[Option.some.injEq,Prod.mk.injEq] at h;obtain⟨rfl,rfl,rfl⟩:=h;exact step_over hL s hs t ht c hc k hk h6 σ2 _ hrun hRT c2 hc2 _ hdl h4 h5 hcq rfl hw hov hpe hro
              · cases h
          · cases h
       · cases h
     · cases h
   · cases h
 · cases h
variable {A:Book} {σ:St} {w:World}
theorem Live.world {A:Book} {σ:St} {w w':World} (hL:Live A σ w) (r:Rep A σ w') (g:Grow A.L w A.L w'):Live A σ w':=
 ⟨r,hL.mp,hL.mt,fun s h c hc=>let ⟨e1,k,e2,e3⟩:=hL.call s h c hc;⟨e1,k,e2,e3.grow g⟩,hL.idle,hL.sx.keep rfl ⟨rfl,rfl⟩ g⟩
theorem Live.alloc (hL:Live A σ w) (o:Obj):Live A σ (w.alloc o):=hL.world (hL.rep.alloc _) (Grow.alloc _ _ _)
theorem Live.below {A:Book} {σ:St} {w w':World} (hL:Live A σ w) (h:Below w.heap.size w w'):Live A σ w':=hL.world (hL.rep.below h) (Grow.below h)
theorem Live.newTmp (hL:Live A σ w) (o:Obj):Live (A.tmp w.heap.size) σ (w.alloc o):=
 let ⟨r,g,_,_⟩:=hL.rep.newTmp o
 ⟨r,hL.mp,hL.mt,fun s h c hc=>let ⟨e1,k,e2,e3⟩:=hL.call s h c hc;⟨e1,k,e2,(show KRep (kp A σ s) (A.tmp w.heap.size).L (w.alloc o) (A.vnext s) k from e3.grow g)⟩,hL.idle,hL.sx.keep rfl ⟨rfl,rfl⟩ g⟩
theorem Live.but {A:Book} {σ:St} {w w':World} {b:Nat} (hL:Live A σ w) (hl:A.L b=some .tmp) (h:But b w w'):Live A σ w':=
 ⟨hL.rep.but hl h,hL.mp,hL.mt,fun s hs c hc=>let ⟨e1,k,e2,e3⟩:=hL.call s hs c hc;⟨e1,k,e2,e3.soft (h.soft hl)⟩,hL.idle,hL.sx.soft rfl (h.soft hl)⟩
def IssueTo (σ:St) (s:Nat) (o:En.Op) (σ1:St) (err:Nat):Prop:=∀ A w,Live A σ w→Calls Tryz.prog 22 #[.pointer (some ⟨A.be,0,none⟩),zi (s:Int),.agg #[zi (o.kind:Int),zi (o.key:Int),zi (o.hi:Int),zi (o.value:Int)]] w (Issued A w σ1 (err:Int))
theorem frow_form {L:Lab} {w:World} {size:Nat} {v:Value} {xs:List Value} (h:FRow L w size v xs):∃ a n cap,v=.slice a n cap:=let ⟨a,n,cap,e,_⟩:=h;⟨a,n,cap,e⟩
theorem below_drewN (w:World) (n:Nat):Below w.heap.size w (w.drewN n):=⟨rfl,rfl,rfl,Nat.le_refl _,fun _ _=>rfl⟩
theorem now_any (hR:Rep A σ w) (hx:σ.word 0<18446744073709551616):Calls Tryz.prog 27 #[.pointer (some ⟨A.be,0,none⟩)] w fun e w'=>e=.returned (zu (σ.now:Int))∧Below w.heap.size w w':=by
 have c2:w.cell? ⟨A.be,2,none⟩=some (.pointer (some ⟨A.ba,0,none⟩)):=hR.eng 2 rfl;have HP:=zH (peek_any hR 0 (by rw[hR.nw];omega));have HD:=zH (drawn_any (σ.word 0) hx);clear hR hx;go_enter Tryz.func27,Tryz.ntmps27;go_wp2_with (first|(go_at_call 36;refine HP.out.mono ?_;rintro e w' ⟨rfl,n,rfl⟩)|(go_at_call 46;refine (HD.out _).mono ?_;rintro e w' ⟨rfl,rfl⟩));go_ret;exact⟨rfl,below_drewN _ _⟩
theorem looks_any (hR:Rep A σ w):Calls Tryz.prog 7 #[.pointer (some ⟨A.be,0,none⟩)] w fun e w'=>e=.returned (zi (σ.looks:Int))∧w=w':=by
 have c2:w.cell? ⟨A.be,23,none⟩=some (zi (σ.looks:Int)):=hR.eng 23 rfl;clear hR;go_enter Tryz.func7,Tryz.ntmps7;go_wp2;go_ret;exact⟨rfl,rfl⟩
theorem done_any (hR:Rep A σ w) (x:Nat) (hx:x<18446744073709551616) (h2:(rd x).1=2→(rd x).2≤65535∧σ.place (rd x).2<σ.words.length∧σ.word (σ.place (rd x).2)<18446744073709551616):
 Calls Tryz.prog 38 #[.pointer (some ⟨A.be,0,none⟩),zu (x:Int)] w fun e w'=>e=.returned (.bool (σ.done x))∧Below w.heap.size w w':=by
 obtain⟨k1,k2⟩:=rd_cast x;have hrd:=Word.read_any (x:Int) (by omega) (by omega) w;rw[k1,k2] at hrd;have HRD:=zH hrd;have HW:Hid (∀ w1 w2,Below w.heap.size w w1→w2=w1.alloc (.cells #[zi ((rd x).1:Int),zu ((rd x).2:Int)] 170)→Below w.heap.size w w2∧Rep A σ w2∧∀ w',Below w2.heap.size w2 w'→w'.cell? ⟨A.be,2,none⟩=some (.pointer (some ⟨A.ba,0,none⟩))∧w'.cell? ⟨w1.heap.size,1,none⟩=some (zu ((rd x).2:Int))):=by
  rintro w1 w2 hb rfl;have r1:=(hR.below hb).alloc (.cells #[zi ((rd x).1:Int),zu ((rd x).2:Int)] 170);have f:=fix_next (hR.below hb).mem.fresh (.cells #[zi ((rd x).1:Int),zu ((rd x).2:Int)] 170) rfl;exact⟨hb.alloc hb.size _,r1,fun w' hb'=>⟨(r1.below hb').eng 2 rfl,(f.grow (Grow.below hb')).cell 1 rfl⟩⟩
 have hd:σ.done x=((rd x).1==1||((rd x).1==2&&stateOf (σ.word (σ.place (rd x).2))==3)):=rfl;have hkind:(rd x).1=0∨(rd x).1=1∨(rd x).1=2∨(rd x).1=3:=by unfold rd;split<;>(try split)<;>(try split)<;>simp
 clear hrd k1 k2;generalize (rd x).2=n at*;generalize hk:(rd x).1=kd at*;clear hk
 rcases hkind with rfl|rfl|rfl|rfl
 · rw[hd]
   clear hd h2 hR;go_enter Tryz.func38,Tryz.ntmps38;go_wp2_with (first|(go_at_call 69;refine HRD.out.mono ?_;rintro e w1 ⟨rfl,hb⟩;obtain⟨hb2,hr2,hc2⟩:=HW.out w1 _ hb rfl;have HB2:=zH hb2;clear hb2 hr2 hc2));go_ret;exact⟨rfl,HB2.out⟩
 · rw[hd]
   clear hd h2 hR;go_enter Tryz.func38,Tryz.ntmps38;go_wp2_with (first|(go_at_call 69;refine HRD.out.mono ?_;rintro e w1 ⟨rfl,hb⟩;obtain⟨hb2,hr2,hc2⟩:=HW.out w1 _ hb rfl;have HB2:=zH hb2;clear hb2 hr2 hc2));go_ret;exact⟨rfl,HB2.out⟩
 · rw[hd]
   obtain⟨m1,m2,m3⟩:=h2 rfl;clear hd h2 hR;have n1:IntKind.i64.wrap (n:Int)=(n:Int):=by rw[IntKind.wrap_i64];omega
   have HU:=zH (fun w'=>unpack_any (σ.word (σ.place n)) m3 w');go_enter Tryz.func38,Tryz.ntmps38;go_wp2_with (first|(go_at_call 69;refine HRD.out.mono ?_;rintro e w1 ⟨rfl,hb⟩;obtain⟨hb2,hr2,hc2⟩:=HW.out w1 _ hb rfl;have HB2:=zH hb2;clear hb2));generalize hw2:w1.alloc _=w2 at*;obtain⟨c2,c1⟩:=hc2 w2 (Below.refl _ _);have HC:=zH hc2;have HPl:=zH (place_still hr2.drew n m1);have HPk:=zH (peek_any hr2.drew (σ.place n) m2);clear hc2 hr2 m1 m2 m3 hw2
   go_region_held3 (fun w'=>w'.cell? ⟨A.be,2,none⟩=some (.pointer (some ⟨A.ba,0,none⟩))∧w'.cell? ⟨w1.heap.size,1,none⟩=some (zu (n:Int)))
    (first|exact⟨c2,c1⟩|assumption|exact HC.out _ (by assumption))
    (first|(go_at_call 51;refine HPl.out.mono ?_;rintro e w' ⟨rfl,rfl⟩)|(go_at_call 36;refine HPk.out.mono ?_;rintro e w3 ⟨rfl,nn,hw3⟩;have hb3:Below w2.heap.size w2 w3:=(by rw[hw3];exact⟨rfl,rfl,rfl,Nat.le_refl _,fun _ _=>rfl⟩);clear hw3)|(go_at_call 70;refine (HU.out _).mono ?_;rintro e w' ⟨rfl,rfl⟩))
   go_wp2_with fail;go_ret;refine⟨?_,HB2.out.trans (hb3.mono HB2.out.size)⟩;generalize stateOf (σ.word (σ.place n))=q;have e:(((q:Nat):Int)==3)=(q==3):=by rw[Bool.eq_iff_iff];simp;omega
   show Ending.returned (.bool (((q:Nat):Int)==3))=Ending.returned (.bool ((2==1||(2==2&&q==3))));rw[e];rfl
 · rw[hd]
   clear hd h2 hR;go_enter Tryz.func38,Tryz.ntmps38;go_wp2_with (first|(go_at_call 69;refine HRD.out.mono ?_;rintro e w1 ⟨rfl,hb⟩;obtain⟨hb2,hr2,hc2⟩:=HW.out w1 _ hb rfl;have HB2:=zH hb2;clear hb2 hr2 hc2));go_ret;exact⟨rfl,HB2.out⟩
theorem list_slots (σ:St):σ.list.slots=σ.slots∧σ.list.worn=σ.worn:=by unfold St.list;split<;>exact⟨rfl,rfl⟩
theorem pool_free (hR:Rep A σ w) (hm:A.mp=0) (hn:σ.free.length<100000):
 Calls Tryz.prog 66 #[.pointer (some ⟨A.bp,0,none⟩)] w (Pooled A w σ.list (zi (σ.list.free.length:Int))):=by
 have HL:=zH (list_any hR hm hn);clear hR hm hn;go_enter Tryz.func66,Tryz.ntmps66;go_wp2_with (go_at_call 86;refine HL.out.mono ?_;rintro e w1 ⟨rfl,A',q1,q2,q3⟩;have hown:=q2.mem.all .free;obtain⟨av,cp,hv,_⟩:=Ow.own_form hown.1;have c2:=q2.pool 2 (v:=A'.vfree) rfl;rw[hv] at c2;obtain⟨⟨L,vf,m,hA'⟩,hmp⟩:=id q1;have ebp:A'.bp=A.bp:=(by rw[hA']);rw[ebp] at c2;have HQ:=zH (zA q1 (zA q2 q3));clear q1 q2 q3 hown hv hA' hmp ebp);go_ret;exact⟨rfl,A',HQ.out⟩
theorem pool_used (hR:Rep A σ w) (hm:A.mp=0) (hn:σ.free.length<100000) (hu:σ.list.free.length+σ.worn≤σ.slots):
 Calls Tryz.prog 32 #[.pointer (some ⟨A.bp,0,none⟩)] w (Pooled A w σ.list (zi (σ.used:Int))):=by
 have hsl:=hR.sl;have c0:w.drew.cell? ⟨A.bp,0,none⟩=some (.slice (some ⟨A.bs,0,none⟩) σ.slots σ.slots):=hR.pool 0 rfl;have c3:w.drew.cell? ⟨A.bp,3,none⟩=some (zi (σ.worn:Int)):=hR.pool 3 rfl;obtain⟨e1,e2⟩:=list_slots σ;have hused:(σ.used:Int)=(σ.slots:Int) - (σ.list.free.length:Int) - (σ.worn:Int):=by unfold St.used;rw[e1];omega
 rw[hused];have HF:=zH (pool_free hR.drew hm hn);have n1:IntKind.i64.wrap ((σ.slots:Int) - (σ.list.free.length:Int))=(σ.slots:Int) - (σ.list.free.length:Int):=by rw[IntKind.wrap_i64];omega
 have n2:IntKind.i64.wrap ((σ.slots:Int) - (σ.list.free.length:Int) - (σ.worn:Int))=(σ.slots:Int) - (σ.list.free.length:Int) - (σ.worn:Int):=by rw[IntKind.wrap_i64];omega
 have HC:Hid (∀ A' w',PoolOnly A A'→Rep A' σ.list w'→w'.cell? ⟨A.bp,0,none⟩=some (.slice (some ⟨A.bs,0,none⟩) σ.slots σ.slots)∧w'.cell? ⟨A.bp,3,none⟩=some (zi (σ.worn:Int))):=by
  rintro A' w' ⟨⟨L,vf,m,rfl⟩,_⟩ r;have h0:=r.pool 0 (v:=.slice (some ⟨A.bs,0,none⟩) σ.list.slots σ.list.slots) rfl;have h3:=r.pool 3 (v:=zi (σ.list.worn:Int)) rfl;rw[e1] at h0;rw[e2] at h3;exact⟨h0,h3⟩
 clear hR hm hn hu hsl e1 e2 hused;generalize (σ.list.free.length:Int)=fl at*;generalize (σ.worn:Int)=wn at*;go_enter Tryz.func32,Tryz.ntmps32;go_wp2_with fail
 go_region_held3 (fun w'=>w'.cell? ⟨A.bp,0,none⟩=some (.slice (some ⟨A.bs,0,none⟩) σ.slots σ.slots)∧w'.cell? ⟨A.bp,3,none⟩=some (zi wn))
  (first|exact⟨c0,c3⟩|assumption|exact HC.out _ _ (by assumption) (by assumption))
  (first|(go_at_call 66;refine HF.out.mono ?_;rintro e w1 ⟨rfl,A',q1,q2,q3⟩))
 go_wp2_with fail;go_ret;exact⟨rfl,A',q1,q2,(Grow.drew _ _).trans q3⟩
theorem used_any (hR:Rep A σ w) (hm:A.mp=0) (hn:σ.free.length<100000) (hu:σ.list.free.length+σ.worn≤σ.slots):
 Calls Tryz.prog 8 #[.pointer (some ⟨A.be,0,none⟩)] w (Pooled A w σ.list (zi (σ.used:Int))):=by
 have c3:w.cell? ⟨A.be,3,none⟩=some (.pointer (some ⟨A.bp,0,none⟩)):=hR.eng 3 rfl;have HU:=zH (pool_used hR hm hn hu);clear hR hm hn hu;go_enter Tryz.func8,Tryz.ntmps8;go_wp2_with (go_at_call 32;refine HU.out.mono ?_;rintro e w1 ⟨rfl,A',q1,q2,q3⟩);go_ret;exact⟨rfl,A',q1,q2,q3⟩
end Go.Proofs.YtmgghljjjpcgkaaGreat.Em
