import Derived.Test.YtiimlopcifljeaaGreatDoorQk20
import Derived.Test.YtiimlopcifljeaaGreatDoorQk18
import Derived.Test.YtiimlopcifljeaaGreatDoorQk19
import Derived.Lib.AppendZerosOnto
namespace Go.Proofs.YtiimlopcifljeaaGreatDoor.Em
open Go.ChangeShapes Go.WideShapes Go.ChangeAt Go.RowKit En
set_option linter.unusedVariables false
set_option linter.unusedSimpArgs false
set_option maxRecDepth 100000
set_option maxHeartbeats 1600000
def vl (σ:St) (l:Nat):Bool:=decide (1≤l % 131072)&&decide (l % 131072≤σ.slots)&&decide (l<18446744073709551616)
def vl0 (σ:St) (l:Nat):Bool:=l==0||vl σ l
def okPool (σ:St):Bool:=decide (σ.free.length<100000)&&σ.free.all (fun i=>decide (i<σ.slots))&&σ.tags.all (fun p=>decide (p.1≤65535))&&decide (σ.worn<1000000)
def okKeys (σ:St) (t:Txn):Bool:=t.keys.all fun key=>match t.cell key with|some x=>vl0 σ x.own&&vl0 σ x.old|none=>false
def okCels (σ:St) (t:Txn):Bool:=t.cells.all fun p=>!p.2.there||vl σ p.2.own
def okThn (σ:St) (s:Nat) (h:Hunt) (link:Nat):Bool:=decide ((σ.t s).reads.length<1000000)&&match h.thn with
 |.get=>vl0 σ link
 |.scan k=>decide (k=h.key)&&vl0 σ link&&decide (k≤63)&&decide ((σ.c s).op.hi≤63)&&okCels σ (σ.t s)&&decide ((σ.c s).r.pairs.length<90000)
 |.change=>decide ((σ.c s).op.key=h.key)
 |.judge i _=>decide (i+1≤(σ.t s).reads.length)
def small (σ:St) (i:Nat):Bool:=decide (σ.word i<18446744073709551616)
def okBinds (σ:St) (s:Nat):Bool:=decide ((σ.t s).bonds.length<1000000)&&decide (σ.tale.length<1000000)
def okK (σ:St) (s:Nat) (k:K):Bool:=
 decide (σ.count<3000000000000000000)&&match k with
 |.fin _=>true
 |.start h=>decide (h.key<64)&&(σ.word (9+h.key) !=0||okThn σ s h 0)
 |.visit h link=>vl σ link&&small σ (wslot link 0)
 |.older h link=>vl σ link&&(σ.word (wslot link 2) !=0||okThn σ s h 0)
 |.maker h link id=>decide (id≤2000)&&small σ (σ.place id)
 |.ended h link mb=>vl σ link&&small σ (wslot link 1)&&(mb !=0||okThn σ s h link)
 |.ender h link mb id=>decide (id≤2000)&&small σ (σ.place id)&&okBinds σ s&&(mb !=0||okThn σ s h link)
 |.seen h link mb=>decide (mb≤2000)&&small σ (σ.place mb)&&okBinds σ s&&okThn (if stateOf (σ.word (σ.place mb))=2 then σ.tick.bind s mb else σ.tick) s h link
 |.again _=>match (σ.t s).cell (σ.c s).op.key with|some x=>vl σ x.own|none=>false
 |.own link=>vl σ link&&small σ (wslot link 1)
 |.ownTxn _ _ id=>decide (id≤2000)&&small σ (σ.place id)
 |.claim link _=>vl σ link&&decide (1≤(σ.t s).id)&&decide ((σ.t s).id≤65535)&&((σ.t s).cell (σ.c s).op.key).isNone&&decide ((σ.t s).keys.length<1000000)&&okPool σ
 |.fresh link=>vl0 σ link&&decide ((σ.c s).op.key<64)&&okPool σ
 |.next link _ at_=>vl0 σ link&&vl σ at_&&okPool σ
 |.free link _ at_=>vl0 σ link&&vl σ at_&&okPool σ&&small σ (wslot at_ 0)
 |.freeTxn link _ _ id=>vl0 σ link&&decide (id≤2000)&&small σ (σ.place id)&&okPool σ
 |.slotB x link head=>vl σ link&&decide (1≤(σ.t s).id)&&decide ((σ.t s).id≤65535)
 |.slotE x link head=>vl σ link
 |.push link head=>vl σ link
 |.pushC link head=>decide ((σ.c s).op.key<64)&&((σ.t s).cell (σ.c s).op.key).isNone&&decide ((σ.t s).keys.length<1000000)
 |.over _=>decide ((σ.c s).op.key<64)
 |.overN link _=>vl σ link
 |.overC _ _=>decide ((σ.c s).op.key<64)&&((σ.t s).cell (σ.c s).op.key).isSome
 |.draw=>decide (σ.word 0<18446744073709551616)
 |.drawH x now=>decide (x<18446744073709551616)&&decide (lastOf x≤2000)
 |.turn x now=>decide (now<281474976710655)&&decide ((σ.t s).id<65536)&&decide (σ.tale.length<1000000)
 |.helpJ=>decide ((σ.t s).end_<281474976710656)&&decide ((σ.t s).id≤2000)&&decide ((σ.t s).reads.length<1000000)
 |.wait i=>match (σ.t s).bonds[i]? with|some bd=>decide (bd≤2000)&&small σ (σ.place bd)&&decide ((σ.t s).bonds.length<1000000)|none=>false
 |.commit=>decide ((σ.t s).end_≤1099511627776)&&decide ((σ.t s).id≤2000)&&decide ((σ.t s).keys.length<1000000)&&okKeys σ (σ.t s)&&decide (σ.tale.length<1000000)
 |.abort _ _=>decide ((σ.t s).end_≤1099511627776)&&decide (1≤(σ.t s).id)&&decide ((σ.t s).id≤2000)&&decide ((σ.t s).keys.length<1000000)&&okKeys σ (σ.t s)&&decide (σ.tale.length<1000000)
 |.turns [] r=>true
 |.turns (x::l) r=>decide (x.at_<σ.words.length)
theorem vl_iff {σ:St} {l:Nat} (h:vl σ l=true):VL σ l:=by
 unfold vl at h;simp only[Bool.and_eq_true,decide_eq_true_eq] at h;exact⟨h.1.1,h.1.2,h.2⟩
theorem vl0_iff {σ:St} {l:Nat} (h:vl0 σ l=true):l=0∨VL σ l:=by
 unfold vl0 at h;simp only[Bool.or_eq_true,beq_iff_eq] at h;exact h.imp id vl_iff
theorem okPool_iff {σ:St} (hn:σ.tags.length=σ.slots) (h:okPool σ=true):PoolOk σ:=by
 unfold okPool at h;simp only[Bool.and_eq_true,decide_eq_true_eq,List.all_eq_true] at h;refine⟨h.1.1.1,fun i hi=>by simpa using h.1.1.2 i hi,fun i hi=>?_,h.2⟩;have:(σ.tags.getD i (0,false))∈σ.tags:=by
  rw[List.getD_eq_getElem?_getD,List.getElem?_eq_getElem (by omega)];exact List.getElem_mem _
 simpa using h.1.2 _ this
theorem okKeys_iff {σ:St} {t:Txn} (h:okKeys σ t=true):KeysOk σ t:=by
 intro key hk;unfold okKeys at h;rw[List.all_eq_true] at h;have:=h key hk
 cases hc:t.cell key with
 |none=>rw[hc] at this;cases this
 |some x=>
  rw[hc] at this;simp only[Bool.and_eq_true] at this;exact⟨x,rfl,vl0_iff this.1,vl0_iff this.2⟩
theorem cel_mem {l:List (Nat×Cel)} {key:Nat} {x:Cel} (h:l.lookup key=some x):(key,x)∈l:=by
 induction l with
 |nil=>cases h
 |cons a l ih=>
  obtain⟨k,y⟩:=a;rw[List.lookup_cons] at h
  by_cases hk:key=k
  · subst hk
    simp at h;subst h;exact List.mem_cons_self
  · rw[beq_false_of_ne hk] at h
    exact List.mem_cons_of_mem _ (ih h)
theorem okCels_iff {σ:St} {t:Txn} (h:okCels σ t=true):CelsOk σ t:=by
 intro key x hx hth;unfold okCels at h;rw[List.all_eq_true] at h;have:=h _ (cel_mem hx);simp only[hth,Bool.not_true,Bool.false_or] at this;exact vl_iff this
theorem small_iff {σ:St} {i:Nat} (h:small σ i=true):σ.word i<18446744073709551616:=by unfold small at h;simpa using h
theorem place_lt {A:Book} {σ:St} {w:World} (hR:Rep A σ w) {id:Nat} (h:id≤2000):σ.place id<σ.words.length:=by rw[hR.nw];unfold St.place;omega
theorem func_inj {f f':FuncId} {b b' c c':Array Value} (h:Value.func (.func f) b c=.func (.func f') b' c'):f=f'∧b=b'∧c=c':=by
 simp only[Value.func.injEq,Fn.func.injEq] at h;exact h
theorem thn_to {σ:St} {s:Nat} {t:Txn} (ht:σ.txns.getD s none=some t) {c:Cal} (hc:σ.calls.getD s none=some c) {hu:Hunt} {link:Nat} (h:okThn σ s hu link=true):ThnTo σ s hu link:=by
 intro A w hR hmp w1 f cc r g hth;obtain⟨key,at_,thn⟩:=hu;unfold okThn at h;rw[txn_get ht,call_get hc,Bool.and_eq_true,decide_eq_true_eq] at h;obtain⟨hrl,h⟩:=h
 cases thn<;>simp only[Bool.and_eq_true,decide_eq_true_eq] at h
 case get=>
  obtain⟨b0,b1,b2,b3,e,k0,k1,k2,k3⟩:=hth;obtain⟨rfl,-,rfl⟩:=func_inj e;exact k_get r s t ht key link b0 b1 b2 b3 k0 k1 k2 k3 at_ (vl0_iff h) hrl
 case scan k=>
  obtain⟨⟨⟨⟨⟨rfl,h1⟩,h2⟩,h3⟩,h4⟩,h5⟩:=h;obtain⟨b0,b1,b2,b3,b4,e,k0,k1,k2,k3,k4⟩:=hth;obtain⟨rfl,-,rfl⟩:=func_inj e;exact k_scan r s t ht c hc k link at_ b0 b1 b2 b3 b4 k0 k1 k2 k3 k4 (vl0_iff h1) h2 h3 (okCels_iff h4) (by omega) hrl
 case change=>
  obtain⟨b0,b1,b2,b3,e,k0,k1,k2,k3⟩:=hth;obtain⟨rfl,-,rfl⟩:=func_inj e;exact k_change r s t ht c hc key link b0 b1 b2 b3 h k0 k1 k2 k3 at_ hrl
 case judge i l=>
  obtain⟨b0,b1,b2,b3,b4,e,k0,k1,k2,k3,k4⟩:=hth;obtain⟨rfl,-,rfl⟩:=func_inj e;exact k_judge r s t ht i l at_ key link b0 b1 b2 b3 b4 k0 k1 k2 k3 k4 h hrl
theorem bind_has {σ:St} {s tq:Nat} {t:Txn} (ht:σ.txns.getD s none=some t):∃ t',(σ.bind s tq).txns.getD s none=some t':=by
 unfold St.bind;rw[txn_get ht]
 split
 · exact⟨t,ht⟩
 · exact⟨{t with bonds:=t.bonds++[tq]},by show (σ.setT s _).txns.getD s none=_;rw[getT_set (lt_of_txn ht),if_pos rfl]⟩
theorem bind_calls (σ:St) (s tq:Nat):(σ.bind s tq).calls=σ.calls:=by unfold St.bind;split<;>rfl
set_option maxHeartbeats 4000000 in
theorem runsTo {σ:St} {s:Nat} (hs:s<8) {t:Txn} (ht:σ.txns.getD s none=some t) {c:Cal} (hc:σ.calls.getD s none=some c) (k:K) (h:okK σ s k=true):RunsTo σ s k:=by
 intro A w1 f b cc hR hmp hmt hk;unfold okK at h;rw[Bool.and_eq_true,decide_eq_true_eq] at h;obtain⟨hcnt0,h⟩:=h;have hcnt:σ.count<4000000000000000000:=by omega
 have et:=txn_get ht;have ec:=call_get hc
 cases k
 case fin r=>
  obtain⟨b0,b1,b2,e,k0,k1,k2⟩:=hk;obtain⟨rfl,rfl,rfl⟩:=func_inj e;exact k_fin hR s c hc r b0 b1 b2 k0 k1 k2
 case start hu=>
  obtain⟨bh,e,k0⟩:=hk;obtain⟨rfl,rfl,rfl⟩:=func_inj e;simp only[Bool.and_eq_true,decide_eq_true_eq,Bool.or_eq_true,bne_iff_ne] at h;exact k_start hR s hu bh k0 h.1 hcnt fun hz w2 r2 g2=>thn_to (σ:=σ.tick) ht hc (h.2.resolve_left (fun hne=>hne hz)) A w2 r2 hmp
 case visit hu link=>
  obtain⟨b0,b1,e,k0,k1⟩:=hk;obtain⟨rfl,rfl,rfl⟩:=func_inj e;simp only[et,ec,Bool.and_eq_true,decide_eq_true_eq,Bool.or_eq_true,bne_iff_ne,Option.isNone_iff_eq_none,Option.isSome_iff_exists] at h;obtain⟨h1,h2⟩:=h;exact k_visit hR s t ht hu link b0 b1 k0 k1 (vl_iff h1).lo (vl_iff h1).hi (vl_iff h1).u (small_iff h2) hcnt
 case older hu link=>
  obtain⟨b0,b1,e,k0,k1⟩:=hk;obtain⟨rfl,rfl,rfl⟩:=func_inj e;simp only[et,ec,Bool.and_eq_true,decide_eq_true_eq,Bool.or_eq_true,bne_iff_ne,Option.isNone_iff_eq_none,Option.isSome_iff_exists] at h;obtain⟨h1,h2⟩:=h;exact k_older hR s hmp hu link b0 b1 k0 k1 (vl_iff h1) hcnt (fun hz=>thn_to (σ:=σ.tick) ht hc (h2.resolve_left (fun hne=>hne hz)))
 case maker hu link id=>
  obtain⟨b0,b1,b2,e,k0,k1,k2⟩:=hk;obtain⟨rfl,rfl,rfl⟩:=func_inj e;simp only[et,ec,Bool.and_eq_true,decide_eq_true_eq,Bool.or_eq_true,bne_iff_ne,Option.isNone_iff_eq_none,Option.isSome_iff_exists] at h;obtain⟨h1,h2⟩:=h;exact k_maker hR s hu link id b0 b1 b2 k0 k1 k2 (by omega) (place_lt hR h1) (small_iff h2) hcnt
 case ended hu link mb=>
  obtain⟨b0,b1,b2,e,k0,k1,k2⟩:=hk;obtain⟨rfl,rfl,rfl⟩:=func_inj e;simp only[et,ec,Bool.and_eq_true,decide_eq_true_eq,Bool.or_eq_true,bne_iff_ne,Option.isNone_iff_eq_none,Option.isSome_iff_exists] at h;obtain⟨⟨h1,h2⟩,h3⟩:=h;exact k_ended hR s hmp t ht hu link mb b0 b1 b2 k0 k1 k2 (vl_iff h1) (small_iff h2) hcnt (fun hz=>thn_to (σ:=σ.tick) ht hc (h3.resolve_left (fun hne=>hne hz)))
 case ender hu link mb id=>
  obtain⟨b0,b1,b2,b3,e,k0,k1,k2,k3⟩:=hk;obtain⟨rfl,rfl,rfl⟩:=func_inj e;simp only[et,ec,Bool.and_eq_true,decide_eq_true_eq,Bool.or_eq_true,bne_iff_ne,Option.isNone_iff_eq_none,Option.isSome_iff_exists] at h;unfold okBinds at h;simp only[et,Bool.and_eq_true,decide_eq_true_eq] at h;obtain⟨⟨⟨h1,h2⟩,h3,h4⟩,h5⟩:=h;exact k_ender hR s hmp t ht hu link mb id b0 b1 b2 b3 k0 k1 k2 k3 (by omega) (place_lt hR h1) (small_iff h2) h3 h4 hcnt (fun hz=>thn_to (σ:=σ.tick) ht hc (h5.resolve_left (fun hne=>hne hz)))
 case seen hu link mb=>
  obtain⟨b0,b1,b2,e,k0,k1,k2⟩:=hk;obtain⟨rfl,rfl,rfl⟩:=func_inj e;simp only[et,ec,Bool.and_eq_true,decide_eq_true_eq,Bool.or_eq_true,bne_iff_ne,Option.isNone_iff_eq_none,Option.isSome_iff_exists] at h;unfold okBinds at h;simp only[et,Bool.and_eq_true,decide_eq_true_eq] at h;obtain⟨⟨⟨h1,h2⟩,h3,h4⟩,h5⟩:=h;have hthn:ThnTo (if stateOf (σ.word (σ.place mb))=2 then σ.tick.bind s mb else σ.tick) s hu link:=by
   split at h5
   · rename_i hq
     rw[if_pos hq];obtain⟨t',ht'⟩:=bind_has (σ:=σ.tick) (tq:=mb) ht;exact thn_to ht' (by rw[bind_calls];exact hc) h5
   · rename_i hq
     rw[if_neg hq];exact thn_to (σ:=σ.tick) ht hc h5
  exact k_seen hR s hmp t ht hu link mb b0 b1 b2 k0 k1 k2 (by omega) (place_lt hR h1) (small_iff h2) h3 h4 hcnt hthn (fun _ _=>trivial)
 case again en=>
  obtain⟨b0,b1,b2,b3,e,k0,k1,k2,k3⟩:=hk;obtain⟨rfl,rfl,rfl⟩:=func_inj e;simp only[et,ec,Bool.and_eq_true,decide_eq_true_eq,Bool.or_eq_true,bne_iff_ne,Option.isNone_iff_eq_none,Option.isSome_iff_exists] at h
  cases hx:t.cell c.op.key with
  |none=>rw[hx] at h;cases h
  |some x=>
  rw[hx] at h
  by_cases hkd:c.op.kind=4
  · exact k_again_del hR s t ht c hc en x hx (vl_iff h) hkd hcnt b0 b1 b2 b3 k0 k1 k2 k3
  exact k_again_put hR s t ht c hc en x hx (vl_iff h) hkd hcnt b0 b1 b2 b3 k0 k1 k2 k3
 case own link=>
  obtain⟨b0,b1,b2,b3,e,k0,k1,k2,k3⟩:=hk;obtain⟨rfl,rfl,rfl⟩:=func_inj e;simp only[et,ec,Bool.and_eq_true,decide_eq_true_eq,Bool.or_eq_true,bne_iff_ne,Option.isNone_iff_eq_none,Option.isSome_iff_exists] at h;obtain⟨h1,h2⟩:=h;exact k_own hR s t ht link (vl_iff h1) (small_iff h2) hcnt b0 b1 b2 b3 k0 k1 k2 k3
 case ownTxn link x1 id=>
  obtain⟨b0,b1,b2,b3,b4,b5,e,k0,k1,k2,k3,k4,k5⟩:=hk;obtain⟨rfl,rfl,rfl⟩:=func_inj e;simp only[et,ec,Bool.and_eq_true,decide_eq_true_eq,Bool.or_eq_true,bne_iff_ne,Option.isNone_iff_eq_none,Option.isSome_iff_exists] at h;obtain⟨h1,h2⟩:=h;exact k_ownTxn hR s link x1 id (by omega) (place_lt hR h1) (small_iff h2) hcnt b0 b1 b2 b3 b4 b5 k0 k1 k2 k3 k4 k5
 case claim link x1=>
  obtain⟨b0,b1,b2,b3,b4,e,k0,k1,k2,k3,k4⟩:=hk;obtain⟨rfl,rfl,rfl⟩:=func_inj e;simp only[et,ec,Bool.and_eq_true,decide_eq_true_eq,Bool.or_eq_true,bne_iff_ne,Option.isNone_iff_eq_none,Option.isSome_iff_exists] at h;obtain⟨⟨⟨⟨⟨h1,h2⟩,h3⟩,h4⟩,h5⟩,h6⟩:=h;exact k_claim hR s t ht c hc hmp link x1 (vl_iff h1) h2 h3 h4 h5 (okPool_iff hR.nt h6) hcnt b0 b1 b2 b3 b4 k0 k1 k2 k3 k4
 case fresh link=>
  obtain⟨b0,b1,b2,b3,e,k0,k1,k2,k3⟩:=hk;obtain⟨rfl,rfl,rfl⟩:=func_inj e;simp only[et,ec,Bool.and_eq_true,decide_eq_true_eq,Bool.or_eq_true,bne_iff_ne,Option.isNone_iff_eq_none,Option.isSome_iff_exists] at h;obtain⟨⟨h1,h2⟩,h3⟩:=h;exact k_fresh hR s c hc link (vl0_iff h1) h2 hmp (okPool_iff hR.nt h3) hcnt b0 b1 b2 b3 k0 k1 k2 k3
 case next link hd at_=>
  obtain⟨b0,b1,b2,b3,b4,b5,e,k0,k1,k2,k3,k4,k5⟩:=hk;obtain⟨rfl,rfl,rfl⟩:=func_inj e;simp only[et,ec,Bool.and_eq_true,decide_eq_true_eq,Bool.or_eq_true,bne_iff_ne,Option.isNone_iff_eq_none,Option.isSome_iff_exists] at h;obtain⟨⟨h1,h2⟩,h3⟩:=h;exact k_next hR s c hc link hd at_ (vl0_iff h1) (vl_iff h2) hmp (okPool_iff hR.nt h3) hcnt b0 b1 b2 b3 b4 b5 k0 k1 k2 k3 k4 k5
 case free link hd at_=>
  obtain⟨b0,b1,b2,b3,b4,b5,e,k0,k1,k2,k3,k4,k5⟩:=hk;obtain⟨rfl,rfl,rfl⟩:=func_inj e;simp only[et,ec,Bool.and_eq_true,decide_eq_true_eq,Bool.or_eq_true,bne_iff_ne,Option.isNone_iff_eq_none,Option.isSome_iff_exists] at h;obtain⟨⟨⟨h1,h2⟩,h3⟩,h4⟩:=h;exact k_free hR s t ht link hd at_ (vl0_iff h1) (vl_iff h2) (okPool_iff hR.nt h3) (small_iff h4) hcnt b0 b1 b2 b3 b4 b5 k0 k1 k2 k3 k4 k5
 case freeTxn link hd at_ id=>
  obtain⟨b0,b1,b2,b3,b4,b5,e,k0,k1,k2,k3,k4,k5⟩:=hk;obtain⟨rfl,rfl,rfl⟩:=func_inj e;simp only[et,ec,Bool.and_eq_true,decide_eq_true_eq,Bool.or_eq_true,bne_iff_ne,Option.isNone_iff_eq_none,Option.isSome_iff_exists] at h;obtain⟨⟨⟨h1,h2⟩,h3⟩,h4⟩:=h;exact k_freeTxn hR s t ht link hd at_ id (vl0_iff h1) (by omega) (place_lt hR h2) (small_iff h3) (okPool_iff hR.nt h4) hcnt b0 b1 b2 b3 b4 b5 k0 k1 k2 k3 k4 k5
 case slotB x link hd=>
  obtain⟨b0,b1,b2,b3,b4,b5,e,k0,k1,k2,k3,k4,k5⟩:=hk;obtain⟨rfl,rfl,rfl⟩:=func_inj e;simp only[et,ec,Bool.and_eq_true,decide_eq_true_eq,Bool.or_eq_true,bne_iff_ne,Option.isNone_iff_eq_none,Option.isSome_iff_exists] at h;obtain⟨⟨h1,h2⟩,h3⟩:=h;exact k_slotB hR s t ht b0 b1 b2 b3 b4 b5 x link hd k0 k1 k2 k3 k4 k5 hcnt (vl_iff h1) h2 h3
 case slotE x link hd=>
  obtain⟨b0,b1,b2,b3,b4,b5,e,k0,k1,k2,k3,k4,k5⟩:=hk;obtain⟨rfl,rfl,rfl⟩:=func_inj e;exact k_slotE hR s t ht x link hd hcnt (vl_iff h) b0 b1 b2 b3 b4 b5 k0 k1 k2 k3 k4 k5
 case push link hd=>
  obtain⟨b0,b1,b2,b3,b4,e,k0,k1,k2,k3,k4⟩:=hk;obtain⟨rfl,rfl,rfl⟩:=func_inj e;exact k_push hR s t ht b0 b1 b2 b3 b4 link hd k0 k1 k2 k3 k4 hcnt (vl_iff h)
 case pushC link hd=>
  obtain⟨b0,b1,b2,b3,b4,e,k0,k1,k2,k3,k4⟩:=hk;obtain⟨rfl,rfl,rfl⟩:=func_inj e;simp only[et,ec,Bool.and_eq_true,decide_eq_true_eq,Bool.or_eq_true,bne_iff_ne,Option.isNone_iff_eq_none,Option.isSome_iff_exists] at h;obtain⟨⟨h1,h2⟩,h3⟩:=h;exact k_pushC hR s t ht c hc link hd h1 h2 h3 hcnt b0 b1 b2 b3 b4 k0 k1 k2 k3 k4
 case over link=>
  obtain⟨b0,b1,b2,b3,b4,e,k0,k1,k2,k3,k4⟩:=hk;obtain⟨rfl,rfl,rfl⟩:=func_inj e;simp only[et,ec,Bool.and_eq_true,decide_eq_true_eq,Bool.or_eq_true,bne_iff_ne,Option.isNone_iff_eq_none,Option.isSome_iff_exists] at h;exact k_over hR s c hc link h hcnt b0 b1 b2 b3 b4 k0 k1 k2 k3 k4
 case overN link hd=>
  obtain⟨b0,b1,b2,b3,b4,b5,e,k0,k1,k2,k3,k4,k5⟩:=hk;obtain⟨rfl,rfl,rfl⟩:=func_inj e;exact k_overN hR s t ht b0 b1 b2 b3 b4 b5 link hd k0 k1 k2 k3 k4 k5 hcnt (vl_iff h)
 case overC link hd=>
  obtain⟨b0,b1,b2,b3,b4,b5,e,k0,k1,k2,k3,k4,k5⟩:=hk;obtain⟨rfl,rfl,rfl⟩:=func_inj e;simp only[et,ec,Bool.and_eq_true,decide_eq_true_eq,Bool.or_eq_true,bne_iff_ne,Option.isNone_iff_eq_none,Option.isSome_iff_exists] at h;obtain⟨h1,x,hx⟩:=h;exact k_overC hR s t ht c hc link hd h1 x hx hcnt b0 b1 b2 b3 b4 b5 k0 k1 k2 k3 k4 k5
 case draw=>
  obtain⟨b0,b1,b2,e,k0,k1,k2⟩:=hk;obtain⟨rfl,rfl,rfl⟩:=func_inj e;simp only[et,ec,Bool.and_eq_true,decide_eq_true_eq,Bool.or_eq_true,bne_iff_ne,Option.isNone_iff_eq_none,Option.isSome_iff_exists] at h;exact k_draw hR s h hcnt b0 b1 b2 k0 k1 k2
 case drawH x now=>
  obtain⟨b0,b1,b2,e,k0,k1,k2⟩:=hk;obtain⟨rfl,rfl,rfl⟩:=func_inj e;simp only[et,ec,Bool.and_eq_true,decide_eq_true_eq,Bool.or_eq_true,bne_iff_ne,Option.isNone_iff_eq_none,Option.isSome_iff_exists] at h;obtain⟨h1,h2⟩:=h;exact k_drawH hR s x now h1 h2 hcnt b0 b1 b2 k0 k1 k2
 case turn x now=>
  obtain⟨b0,b1,b2,b3,b4,e,k0,k1,k2,k3,k4⟩:=hk;obtain⟨rfl,rfl,rfl⟩:=func_inj e;simp only[et,ec,Bool.and_eq_true,decide_eq_true_eq,Bool.or_eq_true,bne_iff_ne,Option.isNone_iff_eq_none,Option.isSome_iff_exists] at h;obtain⟨⟨h1,h2⟩,h3⟩:=h;exact k_turn hR s t ht x now h1 h2 h3 hcnt b0 b1 b2 b3 b4 k0 k1 k2 k3 k4
 case helpJ=>
  obtain⟨b0,b1,b2,e,k0,k1,k2⟩:=hk;obtain⟨rfl,rfl,rfl⟩:=func_inj e;simp only[et,ec,Bool.and_eq_true,decide_eq_true_eq,Bool.or_eq_true,bne_iff_ne,Option.isNone_iff_eq_none,Option.isSome_iff_exists] at h;obtain⟨⟨h1,h2⟩,h3⟩:=h;exact k_helpJ hR s t ht h1 h2 h3 hcnt b0 b1 b2 k0 k1 k2
 case wait i=>
  obtain⟨b0,b1,b2,b3,b4,e,k0,k1,k2,k3,k4⟩:=hk;obtain⟨rfl,rfl,rfl⟩:=func_inj e;simp only[et,ec,Bool.and_eq_true,decide_eq_true_eq,Bool.or_eq_true,bne_iff_ne,Option.isNone_iff_eq_none,Option.isSome_iff_exists] at h
  cases hb:t.bonds[i]? with
  |none=>rw[hb] at h;cases h
  |some bd=>
  rw[hb] at h;simp only[Bool.and_eq_true,decide_eq_true_eq] at h;obtain⟨⟨h1,h2⟩,h3⟩:=h;exact k_wait hR s t ht c hc i bd hb h3 (by omega) (place_lt hR h1) (small_iff h2) hcnt b0 b1 b2 b3 b4 k0 k1 k2 k3 k4
 case commit=>
  obtain⟨b0,b1,b2,e,k0,k1,k2⟩:=hk;obtain⟨rfl,rfl,rfl⟩:=func_inj e;simp only[et,ec,Bool.and_eq_true,decide_eq_true_eq,Bool.or_eq_true,bne_iff_ne,Option.isNone_iff_eq_none,Option.isSome_iff_exists] at h;obtain⟨⟨⟨⟨h1,h2⟩,h3⟩,h4⟩,h5⟩:=h;exact k_commit hR s t ht hmt h1 h2 h3 (okKeys_iff h4) h5 hcnt b0 b1 b2 k0 k1 k2
 case abort er re=>
  obtain⟨b0,b1,b2,b3,b4,e,k0,k1,k2,k3,k4⟩:=hk;obtain⟨rfl,rfl,rfl⟩:=func_inj e;simp only[et,ec,Bool.and_eq_true,decide_eq_true_eq,Bool.or_eq_true,bne_iff_ne,Option.isNone_iff_eq_none,Option.isSome_iff_exists] at h;obtain⟨⟨⟨⟨⟨h1,h2⟩,h3⟩,h4⟩,h5⟩,h6⟩:=h;exact k_abort hR s t ht hmt er re h1 h2 h3 h4 (okKeys_iff h5) h6 hcnt b0 b1 b2 b3 b4 k0 k1 k2 k3 k4
 case turns l r=>
  cases l with
  |nil=>
   obtain⟨b0,b1,b2,b3,e,k0,k1,k2,k3⟩:=hk;obtain⟨rfl,rfl,rfl⟩:=func_inj e;exact k_turnsE hR s t ht c hc r hs hcnt b0 b1 b2 b3 k0 k1 k2 k3
  |cons x l=>
   obtain⟨b0,b1,b2,b3,b4,e,k0,k1,k2,k3,k4⟩:=hk;obtain⟨rfl,rfl,rfl⟩:=func_inj e;simp only[decide_eq_true_eq] at h;exact k_turnsC hR s c hc x l r h hcnt b0 b1 b2 b3 b4 k0 k1 k2 k3 k4
def okFirst (σ:St) (s:Nat):Bool:=match (σ.c s).op.kind with
 |6=>true
 |7=>true
 |1=>match (σ.t s).cell (σ.c s).op.key with|none=>true|some x=>!x.there||vl σ x.own
 |5=>decide ((σ.c s).op.key≤63)&&decide ((σ.c s).op.hi≤63)&&okCels σ (σ.t s)&&decide ((σ.c s).r.pairs.length<90000)
 |2=>okWrite σ s
 |3=>okWrite σ s
 |4=>okWrite σ s
 |_=>false
 where okWrite (σ:St) (s:Nat):Bool:=match (σ.t s).cell (σ.c s).op.key with|none=>true|some _=>decide (1≤(σ.t s).id)&&decide ((σ.t s).id≤65535)&&okPool σ
theorem firstTo {σ:St} {s:Nat} {t:Txn} (ht:σ.txns.getD s none=some t) {c:Cal} (hc:σ.calls.getD s none=some c) (h:okFirst σ s=true):FirstTo σ s:=by
 intro A w hR hmp;have et:=txn_get ht;have ec:=call_get hc;unfold okFirst okFirst.okWrite at h;rw[et,ec] at h;have hret:∀ r,∀ e w',Tells A w s r e w'→∃ v,e=.returned v:=fun r e w' ⟨_,v,hv,_⟩=>⟨v,hv⟩
 refine first_tells hR s c hc _ (fun hk=>?_) (fun hk=>?_) (fun hk=>?_) (fun hk=>?_) (fun k1 k5 k6 k7=>?_) (hret _)
 · rw[hk] at h
   simp only at h
   cases hx:t.cell c.op.key with
   |none=>
    have e:σ.first s=(σ,.start ⟨c.op.key,t.begin_,.get⟩):=by unfold St.first;rw[ec,et];simp only[hk,hx]
    rw[e];exact get_none hR s t ht c hc hx
   |some x=>
    rw[hx] at h;have e:σ.first s=(σ,if x.there then .fin {value:=σ.valueOf x.own} else .fin {e:=11}):=by unfold St.first;rw[ec,et];simp only[hk,hx]
    rw[e]
    cases hth:x.there with
    |true=>
     simp only[hth,Bool.not_true,Bool.false_or] at h;rw[if_pos rfl];exact get_there hR s t ht c hc x hx hth (vl_iff h)
    |false=>
     rw[if_neg (by decide)];exact get_gone hR s t ht c hc x hx hth
 · rw[hk] at h
   simp only[Bool.and_eq_true,decide_eq_true_eq] at h;obtain⟨⟨⟨h1,h2⟩,h3⟩,h4⟩:=h;have e:σ.first s=σ.scan s c.op.key:=by unfold St.first;rw[ec];simp only[hk]
   rw[e];exact scan_any hR s t ht c hc c.op.key (by omega) h2 (okCels_iff h3) (by omega)
 · have e:σ.first s=(σ,.draw):=by unfold St.first;rw[ec];simp only[hk]
   rw[e];exact draw_any hR s
 · have e:σ.first s=(σ,.abort 0 1):=by unfold St.first;rw[ec];simp only[hk]
   rw[e];exact abort_any hR s 0 1
 · have hx:(match t.cell c.op.key with|none=>true|some _=>decide (1≤t.id)&&decide (t.id≤65535)&&okPool σ)=true∧(c.op.kind=2∨c.op.kind=3∨c.op.kind=4):=by
    split at h
    · omega
    · omega
    · omega
    · omega
    · rename_i hk;exact⟨h,.inl hk⟩
    · rename_i hk;exact⟨h,.inr (.inl hk)⟩
    · rename_i hk;exact⟨h,.inr (.inr hk)⟩
    · cases h
   obtain⟨hx1,hkk⟩:=hx
   cases hx:t.cell c.op.key with
   |none=>
    have e:σ.first s=(σ,.start ⟨c.op.key,t.begin_,.change⟩):=by
     rcases hkk with hk|hk|hk<;>(unfold St.first;rw[ec,et];simp only[hk,hx])
    rw[e];exact change_none hR s t ht c hc hx
   |some x=>
    rw[hx] at hx1;simp only[Bool.and_eq_true,decide_eq_true_eq] at hx1;have e:σ.first s=againK σ s t x c.op.kind:=by
     rcases hkk with hk|hk|hk<;>(unfold St.first againK;rw[ec,et];simp only[hk,hx])
    rw[e];exact change_some hR s t ht c hc hmp x hx hx1.1.1 hx1.1.2 (okPool_iff hR.nt hx1.2)
def okOthers (σ σ2:St) (s:Nat):Bool:=decide (σ.calls.length=8)&&decide (σ2.calls.length=8)&&(List.range 8).all fun q=>q==s||decide (σ2.calls.getD q none=σ.calls.getD q none)
theorem okOthers_iff {σ σ2:St} {s:Nat} (h:okOthers σ σ2 s=true):∀ q,q≠s→σ2.calls.getD q none=σ.calls.getD q none:=by
 intro q hq;unfold okOthers at h;simp only[Bool.and_eq_true,decide_eq_true_eq,List.all_eq_true,List.mem_range,Bool.or_eq_true,beq_iff_eq] at h
 by_cases h8:q<8
 · exact (h.2 q h8).resolve_left hq
 · simp[List.getD_eq_getElem?_getD,List.getElem?_eq_none (show σ2.calls.length≤q by omega),List.getElem?_eq_none (show σ.calls.length≤q by omega)]
def afterStep (σ:St) (s:Nat) (σ2:St) (ok:Option K) (c2:Cal):Option (St×Nat×Res):=
 match ok with
 |some k'=>if c2.over=false then some ({σ2.setC s {c2 with k:=some k'} with looks:=σ2.looks+(σ2.count - σ.count)},if c2.waits then 2 else 1,{}) else none
 |none=>
  if c2.waits=false∧c2.over=true∧c2.r.pairs.length≤1000000 then
   if c2.r.over=0 then
    match σ2.txns.getD s none with
    |some t2=>if σ2.tale.length<1000000 then some (({σ2.setC s {c2 with k:=none} with looks:=σ2.looks+(σ2.count - σ.count),calls:=(σ2.setC s {c2 with k:=none}).calls.set s none}:St).event {kind:=2,t:=t2.id,op:=c2.op,res:=c2.r},3,c2.r) else none
    |none=>none
   else if c2.r.pairs=[] then some ({σ2.setC s {c2 with k:=none} with looks:=σ2.looks+(σ2.count - σ.count),calls:=(σ2.setC s {c2 with k:=none}).calls.set s none,txns:=σ2.txns.set s none},3,c2.r) else none
  else none
def oneStep (σ:St) (s:Nat):Option (St×Nat×Res):=
 match σ.txns.getD s none,σ.calls.getD s none with
 |some t,some c=>
  match c.k with
  |some k=>
   match (σ.setC s {c with waits:=false}).run s k with
   |(σ2,ok)=>
    match σ2.calls.getD s none with
    |some c2=>
     if okK (σ.setC s {c with waits:=false}) s k=true∧okOthers σ σ2 s=true∧σ.count≤σ2.count∧σ2.count - σ.count<1000000∧σ2.looks<1000000000000000000∧σ.count<3000000000000000000 then afterStep σ s σ2 ok c2 else none
    |none=>none
  |none=>none
 |_,_=>none
theorem step_calls {A:Book} {σ:St} {w:World} (hL:Live A σ w) {s:Nat} (hs:s<8) {σ':St} {kd:Nat} {r:Res} (h:oneStep σ s=some (σ',kd,r)):
 Calls Tryz.prog 92 #[.pointer (some ⟨A.be,0,none⟩),zi (s:Int)] w (Stepped A w σ' (kd:Int) r):=by
 unfold oneStep at h
 split at h
 · rename_i t c ht hc
   split at h
   · rename_i k hk
     split at h
     rename_i σ2 ok hrun
     split at h
     · rename_i c2 hc2
       split at h
       · rename_i hh
         obtain⟨h1,h2,h3,h4,h5,h6⟩:=hh;have hc1:(σ.setC s {c with waits:=false}).calls.getD s none=some {c with waits:=false}:=by rw[getC_set (lt_of_call hc),if_pos rfl]
         have hRT:=runsTo hs (σ:=σ.setC s {c with waits:=false}) (t:=t) ht hc1 k h1;have hdl:σ2.count=σ.count+(σ2.count - σ.count):=by omega
         have hcq:=okOthers_iff h2;unfold afterStep at h
         cases ok with
         |some k'=>
          simp only at h
          split at h
          · rename_i hov
            simp only[Option.some.injEq,Prod.mk.injEq] at h;obtain⟨rfl,rfl,rfl⟩:=h;have:=step_go hL s hs t ht c hc k hk h6 σ2 _ hrun hRT c2 hc2 _ hdl h4 h5 hcq k' rfl hov
            cases hw:c2.waits<;>(rw[hw] at this;simpa [hw] using this)
          · cases h
         |none=>
          simp only at h
          split at h
          · rename_i hh
            obtain⟨hw,hov,hpr⟩:=hh
            split at h
            · rename_i hro
              split at h
              · rename_i t2 ht2
                split at h
                · rename_i htl
                  simp only[Option.some.injEq,Prod.mk.injEq] at h;obtain⟨rfl,rfl,rfl⟩:=h;exact step_pairs hL s hs t ht c hc k hk h6 σ2 _ hrun hRT c2 hc2 _ hdl h4 h5 hcq t2 ht2 htl rfl hw hov hpr hro
                · cases h
              · cases h
            · rename_i hro
              split at h
              · rename_i hpe
                simp only[Option.some.injEq,Prod.mk.injEq] at h;obtain⟨rfl,rfl,rfl⟩:=h;exact step_over hL s hs t ht c hc k hk h6 σ2 _ hrun hRT c2 hc2 _ hdl h4 h5 hcq rfl hw hov hpe hro
              · cases h
          · cases h
       · cases h
     · cases h
   · cases h
 · cases h
def capTo (n:Int):Int:=min (max n 0) 1000
def boundOf (n c:Int):Int:=wrap64 (wrap64 (400*(capTo n+1)*(capTo c+64))*(capTo n+4))
theorem capTo_low {n:Int} (h:n<0):capTo n=0:=by unfold capTo;omega
theorem capTo_mid {n:Int} (h:0≤n) (h2:(if n<0 then 0 else n)≤1000):capTo n=n:=by rw[if_neg (by omega)] at h2;unfold capTo;omega
theorem capTo_high {n:Int} (h:0≤n) (h2:1000<(if n<0 then 0 else n)):capTo n=1000:=by rw[if_neg (by omega)] at h2;unfold capTo;omega
theorem bound_any (n c:Int) (w:World):Calls Tryz.prog 134 #[zi n,zi c] w fun e w'=>e=.returned (zi (boundOf n c))∧w=w':=by
 go_enter Tryz.func134,Tryz.ntmps134;go_wp2
 all_goals (go_ret;refine⟨?_,rfl⟩;unfold boundOf;first|(rw[capTo_low (n:=n) (by assumption)])|(rw[capTo_mid (n:=n) (by assumption) (by assumption)])|(rw[capTo_high (n:=n) (by assumption) (by assumption)]))
 all_goals (first|(rw[capTo_low (n:=c) (by assumption)];rfl)|(rw[capTo_mid (n:=c) (by assumption) (by assumption)];rfl)|(rw[capTo_high (n:=c) (by assumption) (by assumption)];rfl))
theorem bound_run (w:World):Calls Tryz.prog 134 #[zi 8,zi 256] w fun e w'=>e=.returned (zi 13824000)∧w=w':=by
 have h:=bound_any 8 256 w;rw[show boundOf 8 256=13824000 by decide +kernel] at h;exact h
variable {A:Book} {σ:St} {w:World}
theorem Live.world {A:Book} {σ:St} {w w':World} (hL:Live A σ w) (r:Rep A σ w') (g:Grow A.L w A.L w'):Live A σ w':=
 ⟨r,hL.mp,hL.mt,fun s h c hc=>let ⟨e1,k,e2,e3⟩:=hL.call s h c hc;⟨e1,k,e2,e3.grow g⟩,hL.idle,hL.sx.keep rfl ⟨rfl,rfl⟩ g⟩
theorem Live.alloc (hL:Live A σ w) (o:Obj):Live A σ (w.alloc o):=hL.world (hL.rep.alloc _) (Grow.alloc _ _ _)
theorem Live.below {A:Book} {σ:St} {w w':World} (hL:Live A σ w) (h:Below w.heap.size w w'):Live A σ w':=hL.world (hL.rep.below h) (Grow.below h)
theorem Live.newTmp (hL:Live A σ w) (o:Obj):Live (A.tmp w.heap.size) σ (w.alloc o):=
 let ⟨r,g,_,_⟩:=hL.rep.newTmp o
 ⟨r,hL.mp,hL.mt,fun s h c hc=>let ⟨e1,k,e2,e3⟩:=hL.call s h c hc;⟨e1,k,e2,(show KRep (kp A σ s) (A.tmp w.heap.size).L (w.alloc o) (A.vnext s) k from e3.grow g)⟩,hL.idle,hL.sx.keep rfl ⟨rfl,rfl⟩ g⟩
theorem Live.but {A:Book} {σ:St} {w w':World} {b:Nat} (hL:Live A σ w) (hl:A.L b=some .tmp) (h:But b w w'):Live A σ w':=
 ⟨hL.rep.but hl h,hL.mp,hL.mt,fun s hs c hc=>let ⟨e1,k,e2,e3⟩:=hL.call s hs c hc;⟨e1,k,e2,e3.soft (h.soft hl)⟩,hL.idle,hL.sx.soft rfl (h.soft hl)⟩
def runDo:Nat→St→Nat→Option (St×Res×Nat)
 |0,_,_=>none
 |n+1,σ,s=>match oneStep σ s with
  |some (σ',kd,r)=>if kd=3 then some (σ',r,0) else if kd=2 then some (σ',{},18) else if kd=1 then runDo n σ' s else none
  |none=>none
def IssueTo (σ:St) (s:Nat) (o:En.Op) (σ1:St) (err:Nat):Prop:=∀ A w,Live A σ w→Calls Tryz.prog 88 #[.pointer (some ⟨A.be,0,none⟩),zi (s:Int),.agg #[zi (o.kind:Int),zi (o.key:Int),zi (o.hi:Int),zi (o.value:Int)]] w (Issued A w σ1 (err:Int))
def Done (A:Book) (w:World) (σ':St) (r:Res) (err:Nat):Ending→World→Prop:=fun e w'=>∃ A' vp,e=.returned (.tuple #[.agg #[zi (r.e:Int),zi (r.value:Int),vp,zi (r.over:Int),zi (r.reason:Int)],zi (err:Int)])∧FRow A'.L w' 2 vp (pairCs r.pairs)∧Live A' σ' w'∧Grow A.L w A'.L w'∧A'.be=A.be
theorem frow_form {L:Lab} {w:World} {size:Nat} {v:Value} {xs:List Value} (h:FRow L w size v xs):∃ a n cap,v=.slice a n cap:=let ⟨a,n,cap,e,_⟩:=h;⟨a,n,cap,e⟩
theorem do_any (hL:Live A σ w) (s:Nat) (hs:s<8) (o:En.Op) (σ1:St) (HI:IssueTo σ s o σ1 0) (F:Nat) (hF:F≤13824000) (σ2:St) (r:Res) (err:Nat) (hrun:runDo F σ1 s=some (σ2,r,err)):
 Calls Tryz.prog 94 #[.pointer (some ⟨A.be,0,none⟩),zi (s:Int),.agg #[zi (o.kind:Int),zi (o.key:Int),zi (o.hi:Int),zi (o.value:Int)]] w (Done A w σ2 r err):=by
 obtain⟨w0,hw0⟩:∃ w0,w0=w.alloc (.cells #[zi (o.kind:Int),zi (o.key:Int),zi (o.hi:Int),zi (o.value:Int)] 166):=⟨_,rfl⟩
 have hL0:Live A σ w0:=by rw[hw0];exact hL.alloc _
 have g0:Grow A.L w A.L w0:=by rw[hw0];exact Grow.alloc _ _ _
 have hz:w0.heap.size=w.heap.size+1:=by rw[hw0];simp
 have hL1:=hL0.newTmp (.cells #[zi 0,zi 0,.slice none 0 0,zi 0,zi 0] 168);obtain⟨_,g1,t1,t2⟩:=hL0.rep.newTmp (.cells #[zi 0,zi 0,.slice none 0 0,zi 0,zi 0] 168);have hI:=HI _ _ hL1;have c0:(w0.alloc (.cells #[zi 0,zi 0,.slice none 0 0,zi 0,zi 0] 168)).heap[w.heap.size]? =some (.cells #[zi (o.kind:Int),zi (o.key:Int),zi (o.hi:Int),zi (o.value:Int)] 166):=by
  have f:=(fix_next (L:=A.L) hL.rep.mem.fresh (.cells #[zi (o.kind:Int),zi (o.key:Int),zi (o.hi:Int),zi (o.value:Int)] 166) rfl)
  rw[←hw0] at f;exact (f.grow g1).2
 have HW:=zH (zA (g0.trans g1) (zA t1 t2));have HII:=zH hI;have HR:=zH (zA hrun (zA hF hs));subst hw0;rw[hz] at*;clear HI hI hrun hF hs hL0 hL1 g0 g1 t1 t2 hz hL;go_enter Tryz.func94,Tryz.ntmps94;go_wp2_with (first|(go_at_call 88;refine HII.out.mono ?_;rintro e w1 ⟨A1,rfl,q1,q2,q3⟩;have H1:=zH (zA q1 (zA q2 q3));clear q1 q2 q3)|(go_at_call 134;refine (bound_run _).mono ?_;rintro e w' ⟨rfl,rfl⟩))
 go_loopw [20] (fun i wr=>∃ (j n:Nat) (σj:St) (A':Book),i=zi (j:Int)∧runDo n σj s=some (σ2,r,err)∧j+n≤13824000∧Live A' σj wr∧Grow A.L w A'.L wr∧A'.be=A.be∧A'.L (w.heap.size+1)=some .tmp∧wr.heap[w.heap.size+1]? =some (.cells #[zi 0,zi 0,.slice none 0 0,zi 0,zi 0] 168)) (fun i _=>13824000 - (intOf i).toNat)
 case atStart=>
  obtain⟨q1,q2,q3⟩:=H1.out;obtain⟨gw,t1,t2⟩:=HW.out;obtain⟨t3,t4⟩:=tmp_grow ⟨t1,t2⟩ q2;exact⟨0,F,σ1,A1,rfl,HR.out.1,by have:=HR.out.2.1;omega,q1,gw.trans q2,q3,t3,t4⟩
 case round=>
  obtain⟨j,n,σj,A',rfl,hrun,hj,hL,g,eb,t1,t2⟩:=hrel
  cases n with
  |zero=>cases hrun
  |succ n=>
  unfold runDo at hrun
  split at hrun
  · rename_i σ' kd r' hst
    have hcs:=step_calls hL HR.out.2.2 hst;rw[eb] at hcs;have b1:(j:Int)<13824000:=by omega
    have n1:IntKind.i64.wrap ((j:Int)+1)=(j:Int)+1:=by rw[IntKind.wrap_i64];omega
    have HQ:=zH (zA hrun (zA hj (zA g (zA eb (zA t1 t2)))));clear hrun hj hL g eb t1 t2 hst
    by_cases hk3:kd=3
    · subst hk3
      have HC:=zH hcs;clear hcs;go_wp2_with (first|(go_at_call 92;refine HC.out.mono ?_;rintro e w2 ⟨A2,vp,rfl,q1,q2,q3,q4⟩;obtain⟨va,vn,vc,rfl⟩:=frow_form q1;obtain⟨_,_,gq,eq,t1,t2⟩:=HQ.out;obtain⟨t3,t4⟩:=tmp_grow ⟨t1,t2⟩ q3;have HTH:=zH (there_of (tmp_grow ⟨t3,t4⟩ (Grow.alloc A2.L w2 (.cells #[zi 3,zi (r'.e:Int),zi (r'.value:Int),.slice va vn vc,zi (r'.over:Int),zi (r'.reason:Int)] 193))).2);have H2:=zH (zA q1 (zA q2 (zA (gq.trans q3) (zA (q4.trans eq) (zA t3 t4)))));clear q1 q2 q3 q4 gq eq t1 t2 t3 t4)|(refine wpList_store_mid rfl 168 (.tmp 6) (.tmp 33) rfl (w.heap.size+1) 0 #[zi (r'.e:Int),zi (r'.value:Int),.slice va vn vc,zi (r'.over:Int),zi (r'.reason:Int)] rfl rfl HTH.out (by kernel_rfl) (by simp[Value.oneCell']) ?_;generalize hws:World.setCells _ _ _ _=ws));obtain⟨hrun,_⟩:=HQ.out;obtain⟨q1,q2,gq,eq,t3,t4⟩:=H2.out;have ga:=Grow.alloc A2.L w2 (.cells #[zi 3,zi (r'.e:Int),zi (r'.value:Int),.slice va vn vc,zi (r'.over:Int),zi (r'.reason:Int)] 193);obtain⟨t5,t6⟩:=tmp_grow ⟨t3,t4⟩ ga;have hL3:=q2.alloc (.cells #[zi 3,zi (r'.e:Int),zi (r'.value:Int),.slice va vn vc,zi (r'.over:Int),zi (r'.reason:Int)] 193);have gg:=gq.trans ga;have q1':=q1.grow ga;generalize w2.alloc _=w3 at*;have hbut:=But.setCells (w.heap.size+1) [zi (r'.e:Int),zi (r'.value:Int),.slice va vn vc,zi (r'.over:Int),zi (r'.reason:Int)] 0 w3;have hfin:=heap_setCells5 t6 (zi (r'.e:Int)) (zi (r'.value:Int)) (.slice va vn vc) (zi (r'.over:Int)) (zi (r'.reason:Int));rw[show w3.setCells (w.heap.size+1) 0 [zi (r'.e:Int),zi (r'.value:Int),.slice va vn vc,zi (r'.over:Int),zi (r'.reason:Int)]=ws from hws] at hbut hfin;refine bodyPost_ret (results_cell_tmp_row rfl _ _ (w.heap.size+1) 168 #[zi (r'.e:Int),zi (r'.value:Int),.slice va vn vc,zi (r'.over:Int),zi (r'.reason:Int)] _ _ rfl hfin Tryz.underlying168 rfl (by kernel_rfl)) rfl ?_;replace hrun:some (σ',r',0)=some (σ2,r,err):=hrun;obtain⟨rfl,rfl,rfl⟩:σ'=σ2∧r'=r∧0=err:=by simpa using hrun
      exact⟨A2,(.slice va vn vc),rfl,q1'.but t5 hbut,hL3.but t5 hbut,gg.but (Nat.le_succ _) hbut,eq⟩
    by_cases hk2:kd=2
    · subst hk2
      have HC:=zH hcs;clear hcs;go_wp2_with (first|(go_at_call 92;refine HC.out.mono ?_;rintro e w2 ⟨A2,vp,rfl,q1,q2,q3,q4⟩;obtain⟨va,vn,vc,rfl⟩:=frow_form q1;obtain⟨_,_,gq,eq,t1,t2⟩:=HQ.out;obtain⟨t3,t4⟩:=tmp_grow ⟨t1,t2⟩ q3;have HTH:=zH (there_of (tmp_grow ⟨t3,t4⟩ (Grow.alloc A2.L w2 (.cells #[zi 2,zi (r'.e:Int),zi (r'.value:Int),.slice va vn vc,zi (r'.over:Int),zi (r'.reason:Int)] 193))).2);have H2:=zH (zA q1 (zA q2 (zA (gq.trans q3) (zA (q4.trans eq) (zA t3 t4)))));clear q1 q2 q3 q4 gq eq t1 t2 t3 t4)|(refine wpList_store_mid rfl 168 (.tmp 6) (.tmp 36) rfl (w.heap.size+1) 0 #[zi 0,zi 0,.slice none 0 0,zi 0,zi 0] rfl rfl HTH.out (by kernel_rfl) (by simp[Value.oneCell']) ?_;generalize hws:World.setCells _ _ _ _=ws));obtain⟨hrun,_⟩:=HQ.out;obtain⟨q1,q2,gq,eq,t3,t4⟩:=H2.out;have ga:=Grow.alloc A2.L w2 (.cells #[zi 2,zi (r'.e:Int),zi (r'.value:Int),.slice va vn vc,zi (r'.over:Int),zi (r'.reason:Int)] 193);obtain⟨t5,t6⟩:=tmp_grow ⟨t3,t4⟩ ga;have hL3:=q2.alloc (.cells #[zi 2,zi (r'.e:Int),zi (r'.value:Int),.slice va vn vc,zi (r'.over:Int),zi (r'.reason:Int)] 193);have gg:=gq.trans ga;have q1':=q1.grow ga;generalize w2.alloc _=w3 at*;have hbut:=But.setCells (w.heap.size+1) [zi 0,zi 0,.slice none 0 0,zi 0,zi 0] 0 w3;have hfin:=heap_setCells5 t6 (zi 0) (zi 0) (.slice none 0 0) (zi 0) (zi 0);rw[show w3.setCells (w.heap.size+1) 0 [zi 0,zi 0,.slice none 0 0,zi 0,zi 0]=ws from hws] at hbut hfin;refine bodyPost_ret (results_cell_tmp_row rfl _ _ (w.heap.size+1) 168 #[zi 0,zi 0,.slice none 0 0,zi 0,zi 0] _ _ rfl hfin Tryz.underlying168 rfl (by kernel_rfl)) rfl ?_;replace hrun:some (σ',({}:Res),18)=some (σ2,r,err):=hrun;obtain⟨rfl,rfl,rfl⟩:σ'=σ2∧({}:Res)=r∧18=err:=by simpa using hrun
      exact⟨A2,(.slice none 0 0),rfl,FRow.nil _ _ _,hL3.but t5 hbut,gg.but (Nat.le_succ _) hbut,eq⟩
    by_cases hk1:kd=1
    · subst hk1
      have HC:=zH hcs;clear hcs;go_wp2_with (first|(go_at_call 92;refine HC.out.mono ?_;rintro e w2 ⟨A2,vp,rfl,q1,q2,q3,q4⟩;obtain⟨va,vn,vc,rfl⟩:=frow_form q1;obtain⟨_,_,gq,eq,t1,t2⟩:=HQ.out;obtain⟨t3,t4⟩:=tmp_grow ⟨t1,t2⟩ q3;have HTH:=zH (there_of (tmp_grow ⟨t3,t4⟩ (Grow.alloc A2.L w2 (.cells #[zi 1,zi (r'.e:Int),zi (r'.value:Int),.slice va vn vc,zi (r'.over:Int),zi (r'.reason:Int)] 193))).2);have H2:=zH (zA q1 (zA q2 (zA (gq.trans q3) (zA (q4.trans eq) (zA t3 t4)))));clear q1 q2 q3 q4 gq eq t1 t2 t3 t4));obtain⟨hrun,hj,_⟩:=HQ.out;obtain⟨q1,q2,gq,eq,t3,t4⟩:=H2.out;have ga:=Grow.alloc A2.L w2 (.cells #[zi 1,zi (r'.e:Int),zi (r'.value:Int),.slice va vn vc,zi (r'.over:Int),zi (r'.reason:Int)] 193);obtain⟨t5,t6⟩:=tmp_grow ⟨t3,t4⟩ ga;replace hrun:runDo n σ' s=some (σ2,r,err):=hrun;refine⟨⟨j+1,n,σ',A2,rfl,hrun,by omega,q2.alloc _,gq.trans ga,eq,t5,t6⟩,?_⟩;show 13824000 - ((j:Int)+1).toNat<13824000 - ((j:Int)).toNat;omega
    exfalso;have h:=HQ.out.1;rw[if_neg hk3,if_neg hk2,if_neg hk1] at h;cases h
  · cases hrun
section
variable {L L':Lab} {w w':World}
theorem PRow.soft {v:Value} {xs:List Value} (f:PRow L w v xs) (h:Soft L w L' w'):PRow L' w' v xs:=by
 refine⟨f.1.soft h,fun g off n cap hv=>?_⟩
 rcases f.2 g off n cap hv with h0|⟨cs,hc⟩
 · exact .inl h0
 · by_cases hn:n=0
   · exact .inl hn
   · obtain⟨ad,n',cap',e1,e2,e3,e4,e5⟩:=f.1
     obtain⟨rfl,rfl,rfl⟩:ad=some ⟨g,off,none⟩∧n'=n∧cap'=cap:=by rw[hv] at e1;simp at e1;exact⟨e1.1.symm,e1.2.1.symm,e1.2.2.symm⟩
     obtain⟨g',off',e6,e7,e8,_⟩:=e5.resolve_left hn;obtain⟨rfl,rfl⟩:g=g'∧off=off':=by simpa using e6
     exact .inr ⟨cs,(h.block g e8 e7).trans hc⟩
theorem Evs.soft (h:Soft L w L' w'):∀ {l:List Ev} {xs:List Value},Evs L w l xs→Evs L' w' l xs
 |[],_,f=>f
 |_::_,_,⟨vp,ys,h1,h2,h3⟩=>⟨vp,ys,h1,h2.soft h,Evs.soft h h3⟩
structure Rown (L:Lab) (w:World) (L':Lab) (w':World) (ob:Option Nat):Prop where
 os:w'.os=w.os
 tape:w'.tape=w.tape
 output:w'.output=w.output
 size:w.heap.size≤w'.heap.size
 block:∀ k,k<w.heap.size→some k≠ob→w'.heap[k]? =w.heap[k]?
 lab:∀ k,k<w.heap.size→L' k=L k
 fresh:∀ k,w'.heap.size≤k→L' k=none
 tmp:∀ b,ob=some b→L b=some .tmp
theorem Rown.soft {ob:Option Nat} (h:Rown L w L' w' ob):Soft L w L' w':=⟨h.size,fun b hb e=>h.block b hb (by intro hh;rw[h.tmp b hh.symm] at e;cases e),fun b hb e=>(h.lab b hb).trans e⟩
end
theorem mem_lab (A:Book) (L:Lab) (σ:St) (q:Role):memOf {A with L:=L} σ q=memOf A σ q:=by cases q<;>rfl
theorem Rep.rown {A:Book} {σ:St} {w w':World} {L':Lab} {ob:Option Nat} (hR:Rep A σ w) (h:Rown A.L w L' w' ob):Rep {A with L:=L'} σ w':=by
 refine⟨⟨fun r=>?_,h.fresh⟩,hR.ev.soft h.soft,hR.sl,hR.nw,hR.nt,hR.nv,hR.n8,hR.nc⟩;rw[mem_lab]
 by_cases hr:r=.tmp
 · subst hr;trivial
 · refine (hR.mem.all r).frame (fun k hk hk'=>h.block k hk ?_) h.lab
   intro hh;rw[h.tmp k hh.symm] at hk';exact hr (Option.some.inj hk').symm
theorem Live.rown {A:Book} {σ:St} {w w':World} {L':Lab} {ob:Option Nat} (hL:Live A σ w) (h:Rown A.L w L' w' ob):Live {A with L:=L'} σ w':=
 ⟨hL.rep.rown h,hL.mp,hL.mt,fun s hs c hc=>let ⟨e1,k,e2,e3⟩:=hL.call s hs c hc;⟨e1,k,e2,(show KRep (kp A σ s) L' w' (A.vnext s) k from e3.soft h.soft)⟩,hL.idle,hL.sx.soft rfl h.soft⟩
theorem Grow.rown {L0 L L':Lab} {w0 w w':World} {ob:Option Nat} (g:Grow L0 w0 L w) (h:Rown L w L' w' ob) (hb:∀ b,ob=some b→w0.heap.size≤b):Grow L0 w0 L' w':=
 have hne:∀ k,k<w0.heap.size→some k≠ob:=fun k hk hh=>by have:=hb k hh.symm;omega
 ⟨h.os.trans g.os,h.tape.trans g.tape,h.output.trans g.output,Nat.le_trans g.size h.size,fun k hk hl=>(h.block k (Nat.lt_of_lt_of_le hk g.size) (hne k hk)).trans (g.block k hk hl),fun k hk=>(h.lab k (Nat.lt_of_lt_of_le hk g.size)).trans (g.lab k hk),fun k hk hl=>(h.block k (Nat.lt_of_lt_of_le hk g.size) (hne k hk)).trans (g.keep k hk hl)⟩
def TmpRow (L:Lab) (v:Value):Prop:=∀ b,v.ownBlock=some b→L b=some .tmp
theorem append_tmp {A:Book} {σ:St} {w w':World} {v v':Value} {base:Nat} {e:TypeId} {size n:Nat} {xs:List Value} (hL:Live A σ w) (hv:TmpRow A.L v) (hown:w'.ownsRow base e size v' n xs) (hg:w.grownBy w' v.ownBlock) (h3:v'.ownBlock=v.ownBlock∨∀ g,v'.ownBlock=some g→w.heap.size≤g):
 ∃ L',Rown A.L w L' w' v.ownBlock∧TmpRow L' v':=by
 have hf:∀ k,w'.heap.size≤k→A.L k=none:=fun k hk=>hL.rep.mem.fresh k (Nat.le_trans hg.size hk)
 by_cases hs:v'.ownBlock=v.ownBlock
 · exact⟨A.L,⟨hg.os,hg.tape,hg.output,hg.size,hg.block,fun _ _=>rfl,hf,hv⟩,fun b hb=>hv b (hs.symm.trans hb)⟩
 · cases hb:v'.ownBlock with
   |none=>exact⟨A.L,⟨hg.os,hg.tape,hg.output,hg.size,hg.block,fun _ _=>rfl,hf,hv⟩,fun b hb'=>by rw[hb] at hb';cases hb'⟩
   |some g=>
    have hge:=(h3.resolve_left hs) g hb;have hlt:=(hown.lt g hb).2;refine⟨lab1 A.L g .tmp,⟨hg.os,hg.tape,hg.output,hg.size,hg.block,fun k hk=>lab1_other (by omega),fun k hk=>?_,hv⟩,fun b hb'=>?_⟩
    · rw[lab1_other (by omega)];exact hf k hk
    · obtain rfl:g=b:=Option.some.inj (hb.symm.trans hb')
      exact lab1_same _ _ _
def issueSt (σ:St) (s:Nat) (o:En.Op) (t:Txn):St:=if opEnds o then (({σ with seq:=σ.seq+1}:St).setC s (callOf o (σ.seq+1))) else (({(σ.setT s {t with ops:=t.ops+1}) with seq:=σ.seq+1}:St).setC s (callOf o (σ.seq+1)))
def issueOk (σ:St) (s:Nat) (o:En.Op):Option St:=
 match σ.txns.getD s none with
 |some t=>
  if opOk o=true∧(σ.calls.getD s none).isNone=true∧(t.ops<12∨(opEnds o=true∧t.ops<1000000))∧σ.seq<4000000000000000000∧s<σ.calls.length∧s<σ.txns.length∧okFirst (issueSt σ s o t) s=true then
   match (issueSt σ s o t).first s with
   |(σ4,k)=>
    match σ4.calls.getD s none with
    |some c4=>if okOthers σ σ4 s=true then some (σ4.setC s {c4 with k:=some k}) else none
    |none=>none
  else none
 |none=>none
theorem setC_at {σ:St} {s:Nat} (c:Cal) (h:s<σ.calls.length):(σ.setC s c).calls.getD s none=some c:=by
 unfold St.setC;simp[List.getD_eq_getElem?_getD,List.getElem?_set,h]
theorem setT_at {σ:St} {s:Nat} (t:Txn) (h:s<σ.txns.length):(σ.setT s t).txns.getD s none=some t:=by
 unfold St.setT;simp[List.getD_eq_getElem?_getD,List.getElem?_set,h]
theorem issue_to {σ σ1:St} {s:Nat} {o:En.Op} (hs:s<8) (h:issueOk σ s o=some σ1):IssueTo σ s o σ1 0:=by
 intro A w hL;unfold issueOk at h
 split at h
 · rename_i t ht
   split at h
   · rename_i hh
     obtain⟨ho,hn,hop,hsq,hcl,htl,hof⟩:=hh;have hn':σ.calls.getD s none=none:=by simpa using hn
     split at h
     rename_i σ4 k hf
     split at h
     · rename_i c4 hc4
       split at h
       · rename_i hoth
         obtain rfl:=Option.some.inj h;have hcq:=okOthers_iff hoth;unfold issueSt at hof hf
         cases he:opEnds o with
         |true=>
          rw[he] at hof hf;simp only[if_true] at hof hf;exact issue_ends hL s hs t ht o ho he hn' (by omega) hsq (firstTo (t:=t) ht (setC_at _ hcl) hof) σ4 k hf c4 hc4 hcq
         |false=>
          rw[he] at hof hf;simp only[Bool.false_eq_true,if_false] at hof hf;exact issue_other hL s hs t ht o ho he hn' (hop.resolve_right (fun h=>by rw[he] at h;cases h.1)) hsq (firstTo (t:={t with ops:=t.ops+1}) (setT_at _ htl) (setC_at _ hcl) hof) σ4 k hf c4 hc4 hcq
       · cases h
     · cases h
   · cases h
 · cases h
def BeginTo (σ:St) (s level:Nat) (σ1:St) (id:Nat):Prop:=∀ A w,Live A σ w→Calls Tryz.prog 36 #[.pointer (some ⟨A.be,0,none⟩),zi (s:Int),zi (level:Int)] w (Begun A w σ1 id)
def beginSt (σ:St) (s level:Nat) (σ2:St):St:=
 ((((({σ2 with made:=σ.made+1}:St).cas 0 (σ.word 0) (clockW (timeOf (σ.word 0)+1) 0)).put (σ.place (σ.made+1)) (pack 1 0)).put (1+s) (timeOf (σ.word 0)+1)).setT s (txnOf (σ.made+1) level (timeOf (σ.word 0)+1))).event {kind:=1,t:=σ.made+1,n:=timeOf (σ.word 0)+1,op:=⟨0,0,0,level⟩}
def beginOk (σ:St) (s level:Nat):Option (St×Nat):=
 if 1≤level∧level≤3∧(σ.txns.getD s none).isNone=true∧(σ.calls.getD s none).isNone=true∧σ.made<2000∧σ.word 0<18446744073709551616∧timeOf (σ.word 0)<281474976710000∧timeOf (σ.word 0)<σ.limit∧σ.count<3000000000000000000∧σ.tale.length<1000000 then
  if lastOf (σ.word 0)=0 then some (beginSt σ s level σ.tick,σ.made+1)
  else if lastOf (σ.word 0)≤2000 then some (beginSt σ s level (σ.tick.help (σ.word 0)),σ.made+1)
  else none
 else none
theorem begin_to {σ σ1:St} {s level id:Nat} (hs:s<8) (h:beginOk σ s level=some (σ1,id)):BeginTo σ s level σ1 id:=by
 intro A w hL;unfold beginOk at h
 split at h
 · rename_i hh
   obtain⟨h1,h2,h3,h4,h5,h6,h7,h8,h9,h10⟩:=hh
   split at h
   · rename_i hl
     simp only[Option.some.injEq,Prod.mk.injEq] at h;obtain⟨rfl,rfl⟩:=h;exact begin_new hL s hs level h1 h2 (by simpa using h3) (by simpa using h4) h5 h6 h7 h8 hl h9 h10
   · rename_i hl
     split at h
     · rename_i hl2
       simp only[Option.some.injEq,Prod.mk.injEq] at h;obtain⟨rfl,rfl⟩:=h;exact begin_help hL s hs level h1 h2 (by simpa using h3) (by simpa using h4) h5 h6 h7 h8 ⟨by omega,hl2⟩ h9 h10
     · cases h
 · cases h
theorem done_any (hR:Rep A σ w) (x:Nat) (hx:x<18446744073709551616) (h2:(rd x).1=2→(rd x).2≤65535∧σ.place (rd x).2<σ.words.length∧σ.word (σ.place (rd x).2)<18446744073709551616):
 Calls Tryz.prog 80 #[.pointer (some ⟨A.be,0,none⟩),zu (x:Int)] w fun e w'=>e=.returned (.bool (σ.done x))∧Below w.heap.size w w':=by
 obtain⟨k1,k2⟩:=rd_cast x;have hrd:=Word.read_any (x:Int) (by omega) (by omega) w;rw[k1,k2] at hrd;have HRD:=zH hrd;have HW:Hid (∀ w1 w2,Below w.heap.size w w1→w2=w1.alloc (.cells #[zi ((rd x).1:Int),zu ((rd x).2:Int)] 230)→Below w.heap.size w w2∧Rep A σ w2∧∀ w',Below w2.heap.size w2 w'→w'.cell? ⟨A.be,2,none⟩=some (.pointer (some ⟨A.ba,0,none⟩))∧w'.cell? ⟨w1.heap.size,1,none⟩=some (zu ((rd x).2:Int))):=by
  rintro w1 w2 hb rfl;have r1:=(hR.below hb).alloc (.cells #[zi ((rd x).1:Int),zu ((rd x).2:Int)] 230);have f:=fix_next (hR.below hb).mem.fresh (.cells #[zi ((rd x).1:Int),zu ((rd x).2:Int)] 230) rfl;exact⟨hb.alloc hb.size _,r1,fun w' hb'=>⟨(r1.below hb').eng 2 rfl,(f.grow (Grow.below hb')).cell 1 rfl⟩⟩
 have hd:σ.done x=((rd x).1==1||((rd x).1==2&&stateOf (σ.word (σ.place (rd x).2))==3)):=rfl;have hkind:(rd x).1=0∨(rd x).1=1∨(rd x).1=2∨(rd x).1=3:=by unfold rd;split<;>(try split)<;>(try split)<;>simp
 clear hrd k1 k2;generalize (rd x).2=n at*;generalize hk:(rd x).1=kd at*;clear hk
 rcases hkind with rfl|rfl|rfl|rfl
 · rw[hd]
   clear hd h2 hR;go_enter Tryz.func80,Tryz.ntmps80;go_wp2_with (first|(go_at_call 118;refine HRD.out.mono ?_;rintro e w1 ⟨rfl,hb⟩;obtain⟨hb2,hr2,hc2⟩:=HW.out w1 _ hb rfl;have HB2:=zH hb2;clear hb2 hr2 hc2));go_ret;exact⟨rfl,HB2.out⟩
 · rw[hd]
   clear hd h2 hR;go_enter Tryz.func80,Tryz.ntmps80;go_wp2_with (first|(go_at_call 118;refine HRD.out.mono ?_;rintro e w1 ⟨rfl,hb⟩;obtain⟨hb2,hr2,hc2⟩:=HW.out w1 _ hb rfl;have HB2:=zH hb2;clear hb2 hr2 hc2));go_ret;exact⟨rfl,HB2.out⟩
 · rw[hd]
   obtain⟨m1,m2,m3⟩:=h2 rfl;clear hd h2 hR;have n1:IntKind.i64.wrap (n:Int)=(n:Int):=by rw[IntKind.wrap_i64];omega
   have HU:=zH (fun w'=>unpack_any (σ.word (σ.place n)) m3 w');go_enter Tryz.func80,Tryz.ntmps80;go_wp2_with (first|(go_at_call 118;refine HRD.out.mono ?_;rintro e w1 ⟨rfl,hb⟩;obtain⟨hb2,hr2,hc2⟩:=HW.out w1 _ hb rfl;have HB2:=zH hb2;clear hb2));generalize hw2:w1.alloc _=w2 at*;obtain⟨c2,c1⟩:=hc2 w2 (Below.refl _ _);have HC:=zH hc2;have HPl:=zH (place_still hr2.drew n m1);have HPk:=zH (peek_any hr2.drew (σ.place n) m2);clear hc2 hr2 m1 m2 m3 hw2
   go_region_held3 (fun w'=>w'.cell? ⟨A.be,2,none⟩=some (.pointer (some ⟨A.ba,0,none⟩))∧w'.cell? ⟨w1.heap.size,1,none⟩=some (zu (n:Int)))
    (first|exact⟨c2,c1⟩|assumption|exact HC.out _ (by assumption))
    (first|(go_at_call 72;refine HPl.out.mono ?_;rintro e w' ⟨rfl,rfl⟩)|(go_at_call 78;refine HPk.out.mono ?_;rintro e w3 ⟨rfl,nn,hw3⟩;have hb3:Below w2.heap.size w2 w3:=(by rw[hw3];exact⟨rfl,rfl,rfl,Nat.le_refl _,fun _ _=>rfl⟩);clear hw3)|(go_at_call 119;refine (HU.out _).mono ?_;rintro e w' ⟨rfl,rfl⟩))
   go_wp2_with fail;go_ret;refine⟨?_,HB2.out.trans (hb3.mono HB2.out.size)⟩;generalize stateOf (σ.word (σ.place n))=q;have e:(((q:Nat):Int)==3)=(q==3):=by rw[Bool.eq_iff_iff];simp;omega
   show Ending.returned (.bool (((q:Nat):Int)==3))=Ending.returned (.bool ((2==1||(2==2&&q==3))));rw[e];rfl
 · rw[hd]
   clear hd h2 hR;go_enter Tryz.func80,Tryz.ntmps80;go_wp2_with (first|(go_at_call 118;refine HRD.out.mono ?_;rintro e w1 ⟨rfl,hb⟩;obtain⟨hb2,hr2,hc2⟩:=HW.out w1 _ hb rfl;have HB2:=zH hb2;clear hb2 hr2 hc2));go_ret;exact⟨rfl,HB2.out⟩
theorem list_slots (σ:St):σ.list.slots=σ.slots∧σ.list.worn=σ.worn:=by unfold St.list;split<;>exact⟨rfl,rfl⟩
theorem pool_free (hR:Rep A σ w) (hm:A.mp=0) (hn:σ.free.length<100000):
 Calls Tryz.prog 116 #[.pointer (some ⟨A.bp,0,none⟩)] w (Pooled A w σ.list (zi (σ.list.free.length:Int))):=by
 have HL:=zH (list_any hR hm hn);clear hR hm hn;go_enter Tryz.func116,Tryz.ntmps116;go_wp2_with (go_at_call 154;refine HL.out.mono ?_;rintro e w1 ⟨rfl,A',q1,q2,q3⟩;have hown:=q2.mem.all .free;obtain⟨av,cp,hv,_⟩:=Ow.own_form hown.1;have c2:=q2.pool 2 (v:=A'.vfree) rfl;rw[hv] at c2;obtain⟨⟨L,vf,m,hA'⟩,hmp⟩:=id q1;have ebp:A'.bp=A.bp:=(by rw[hA']);rw[ebp] at c2;have HQ:=zH (zA q1 (zA q2 q3));clear q1 q2 q3 hown hv hA' hmp ebp);go_ret;exact⟨rfl,A',HQ.out⟩
theorem pool_used (hR:Rep A σ w) (hm:A.mp=0) (hn:σ.free.length<100000) (hu:σ.list.free.length+σ.worn≤σ.slots):
 Calls Tryz.prog 76 #[.pointer (some ⟨A.bp,0,none⟩)] w (Pooled A w σ.list (zi (σ.used:Int))):=by
 have hsl:=hR.sl;have c0:w.drew.cell? ⟨A.bp,0,none⟩=some (.slice (some ⟨A.bs,0,none⟩) σ.slots σ.slots):=hR.pool 0 rfl;have c3:w.drew.cell? ⟨A.bp,3,none⟩=some (zi (σ.worn:Int)):=hR.pool 3 rfl;obtain⟨e1,e2⟩:=list_slots σ;have hused:(σ.used:Int)=(σ.slots:Int) - (σ.list.free.length:Int) - (σ.worn:Int):=by unfold St.used;rw[e1];omega
 rw[hused];have HF:=zH (pool_free hR.drew hm hn);have n1:IntKind.i64.wrap ((σ.slots:Int) - (σ.list.free.length:Int))=(σ.slots:Int) - (σ.list.free.length:Int):=by rw[IntKind.wrap_i64];omega
 have n2:IntKind.i64.wrap ((σ.slots:Int) - (σ.list.free.length:Int) - (σ.worn:Int))=(σ.slots:Int) - (σ.list.free.length:Int) - (σ.worn:Int):=by rw[IntKind.wrap_i64];omega
 have HC:Hid (∀ A' w',PoolOnly A A'→Rep A' σ.list w'→w'.cell? ⟨A.bp,0,none⟩=some (.slice (some ⟨A.bs,0,none⟩) σ.slots σ.slots)∧w'.cell? ⟨A.bp,3,none⟩=some (zi (σ.worn:Int))):=by
  rintro A' w' ⟨⟨L,vf,m,rfl⟩,_⟩ r;have h0:=r.pool 0 (v:=.slice (some ⟨A.bs,0,none⟩) σ.list.slots σ.list.slots) rfl;have h3:=r.pool 3 (v:=zi (σ.list.worn:Int)) rfl;rw[e1] at h0;rw[e2] at h3;exact⟨h0,h3⟩
 clear hR hm hn hu hsl e1 e2 hused;generalize (σ.list.free.length:Int)=fl at*;generalize (σ.worn:Int)=wn at*;go_enter Tryz.func76,Tryz.ntmps76;go_wp2_with fail
 go_region_held3 (fun w'=>w'.cell? ⟨A.bp,0,none⟩=some (.slice (some ⟨A.bs,0,none⟩) σ.slots σ.slots)∧w'.cell? ⟨A.bp,3,none⟩=some (zi wn))
  (first|exact⟨c0,c3⟩|assumption|exact HC.out _ _ (by assumption) (by assumption))
  (first|(go_at_call 116;refine HF.out.mono ?_;rintro e w1 ⟨rfl,A',q1,q2,q3⟩))
 go_wp2_with fail;go_ret;exact⟨rfl,A',q1,q2,(Grow.drew _ _).trans q3⟩
theorem used_any (hR:Rep A σ w) (hm:A.mp=0) (hn:σ.free.length<100000) (hu:σ.list.free.length+σ.worn≤σ.slots):
 Calls Tryz.prog 38 #[.pointer (some ⟨A.be,0,none⟩)] w (Pooled A w σ.list (zi (σ.used:Int))):=by
 have c3:w.cell? ⟨A.be,3,none⟩=some (.pointer (some ⟨A.bp,0,none⟩)):=hR.eng 3 rfl;have HU:=zH (pool_used hR hm hn hu);clear hR hm hn hu;go_enter Tryz.func38,Tryz.ntmps38;go_wp2_with (go_at_call 76;refine HU.out.mono ?_;rintro e w1 ⟨rfl,A',q1,q2,q3⟩);go_ret;exact⟨rfl,A',q1,q2,q3⟩
theorem least_exists {P:Nat→Prop} (h:∃ n,P n):∃ n,P n∧∀ m,m<n→¬ P m:=by
 obtain⟨n,hn⟩:=h
 induction n using Nat.strongRecOn with
 |_ n ih=>
  by_cases hm:∃ m,m<n∧P m
  · obtain⟨m,h1,h2⟩:=hm
    exact ih m h1 h2
  · exact⟨n,hn,fun m h1 h2=>hm ⟨m,h1,h2⟩⟩
open Classical in
noncomputable def leastF (P:Nat→Prop):Nat:=if h:∃ n,P n then Classical.choose (least_exists h) else 0
theorem leastF_spec {P:Nat→Prop} (h:∃ n,P n):P (leastF P):=by
 unfold leastF;rw[dif_pos h];exact (Classical.choose_spec (least_exists h)).1
theorem leastF_le {P:Nat→Prop} {n:Nat} (h:P n):leastF P≤n:=by
 have hh:∃ n,P n:=⟨n,h⟩
 unfold leastF;rw[dif_pos hh]
 rcases Nat.lt_or_ge n (Classical.choose (least_exists hh)) with h1|h1
 · exact absurd h ((Classical.choose_spec (least_exists hh)).2 n h1)
 · exact h1
def okWord (σ:St) (x:Nat):Bool:=decide (x<18446744073709551616)&&((rd x).1 !=2||(decide ((rd x).2≤2000)&&small σ (σ.place (rd x).2)))
def chainOk (σ:St):Nat→Nat→Bool
 |0,_=>false
 |n+1,link=>link==0||(vl σ link&&okWord σ (σ.word (wslot link 0))&&okWord σ (σ.word (wslot link 1))&&((σ.done (σ.word (wslot link 0))&&!σ.done (σ.word (wslot link 1)))||chainOk σ n (σ.word (wslot link 2))))
def okPairs (σ:St):Bool:=(List.range 64).all fun key=>chainOk σ (σ.slots+1) (σ.word (9+key))
def pairsTo (σ:St) (k:Nat):List (Nat×Nat):=(List.range k).filterMap fun key=>(σ.pairAt (σ.slots+1) (σ.word (9+key))).map fun v=>(key,v)
theorem pairsTo_succ (σ:St) (k:Nat):pairsTo σ (k+1)=pairsTo σ k++(match σ.pairAt (σ.slots+1) (σ.word (9+k)) with|some v=>[(k,v)]|none=>[]):=by
 unfold pairsTo;rw[List.range_succ,List.filterMap_append]
 congr 1
 cases h:σ.pairAt (σ.slots+1) (σ.word (9+k))<;>simp[h]
theorem pairsTo_le (σ:St) (k:Nat):(pairsTo σ k).length≤k:=by
 unfold pairsTo;have:=List.length_filterMap_le (fun key=>(σ.pairAt (σ.slots+1) (σ.word (9+key))).map fun v=>(key,v)) (List.range k)
 simpa using this
theorem wp_pair {ops:Array Oper} {rest:List Oper} {o:Oper} {a:Act} {Q:Exit→Act→World→Prop} (w:World) (hgd:o.guard=none) (s x:Operand)
 (ho:o.op=.call {callee:=.builtin .append,args:=#[s,x],argTypes:=#[100,100]})
 (w0:World) (hb:Below w0.heap.size w0 w) (av:Option Addr) (m cap:Nat) (xs:List Value) (hs:a.eval s=.slice av m cap) (hown:w.ownsRow w0.heap.size 172 2 (.slice av m cap) m xs) (hm:m<4000000)
 (t0 t1:Int) (hx:a.eval x=.slice (some ⟨w.heap.size,0,none⟩) 1 1)
 (h:∀ av' cap' w',w'.ownsRow w0.heap.size 172 2 (.slice av' (m+1) cap') (m+1) (xs++[zi t0,zi t1])→Below w0.heap.size w0 w'→wpList Tryz.prog ops Q rest (a.put o.dst (.slice av' (m+1) cap')) w'):
 wpList Tryz.prog ops Q (o::rest) a (w.alloc (.cells #[zi t0,zi t1] 172)):=by
 obtain⟨ii,hii,hz0,hz1,hz2⟩:=info_parts infoP;have hw:=hb.size;have hown':(w.alloc (.cells #[zi t0,zi t1] 172)).ownsRow w0.heap.size 172 2 (.slice av m cap) m xs:=own_same hown fun g hg=>Below.heap_alloc _ _ _ (hown.lt g hg).2
 refine Ow.wpList_append_to _ hgd s x 100 ho w0.heap.size 172 ii _ 2 16 Tryz.underlying100 hii hz0 hz1 hz2 rfl (by decide) (.slice av m cap) m xs hs hown' ⟨w.heap.size,0,none⟩ 1 1 (by omega) [zi t0,zi t1] hx rfl (fun j u hu=>Ow.new_row w [zi t0,zi t1] _ _ rfl j u hu) (by intro u hu;simp at hu;rcases hu with rfl|rfl<;>rfl) (by unfold maxLen;omega) (by omega) (by simp;omega) ?_;intro v' w' q1 q2 q3;obtain⟨av',cap',rfl,_⟩:=Ow.own_form q1;exact h av' cap' w' q1 ((hb.alloc hw _).grown q2 (by simp;omega) (fun g hg=>(hown.lt g hg).1))
theorem done_ok {A:Book} {σ:St} {w w1:World} (hR:Rep A σ w) (hb:Below w.heap.size w w1) {x:Nat} (h:okWord σ x=true):
 Calls Tryz.prog 80 #[.pointer (some ⟨A.be,0,none⟩),zu (x:Int)] w1 fun e w'=>e=.returned (.bool (σ.done x))∧Below w.heap.size w w':=by
 unfold okWord at h;simp only[Bool.and_eq_true,decide_eq_true_eq,Bool.or_eq_true,bne_iff_ne] at h;have hr:=hR.below hb;refine (done_any hr x h.1 fun h2=>?_).mono fun e w' hh=>⟨hh.1,hb.trans (hh.2.mono hb.size)⟩
 obtain⟨h3,h4⟩:=h.2.resolve_left (fun hn=>hn h2);exact⟨by omega,place_lt hR h3,small_iff h4⟩
theorem peek_ok {A:Book} {σ:St} {w w1:World} (hR:Rep A σ w) (hb:Below w.heap.size w w1) (i:Nat) (hi:i<σ.words.length):
 Calls Tryz.prog 78 #[.pointer (some ⟨A.ba,0,none⟩),zi (i:Int)] w1 fun e w'=>e=.returned (zu (σ.word i:Int))∧Below w.heap.size w w':=by
 refine (peek_any (hR.below hb) i hi).mono fun e w' hh=>?_
 obtain⟨h1,n,rfl⟩:=hh;exact⟨h1,hb.trans ⟨rfl,rfl,rfl,Nat.le_refl _,fun _ _=>rfl⟩⟩
theorem pairs_any (hR:Rep A σ w) (hok:okPairs σ=true):
 Calls Tryz.prog 42 #[.pointer (some ⟨A.be,0,none⟩)] w fun e w'=>∃ av cap,e=.returned (.slice av σ.pairs.length cap)∧w'.ownsRow w.heap.size 172 2 (.slice av σ.pairs.length cap) σ.pairs.length (pairCs σ.pairs)∧Below w.heap.size w w':=by
 have hls:σ.pairs=pairsTo σ 64:=rfl;rw[hls];have HRR:=zH (zA hR hok);have HE2:Hid (∀ w',Below w.heap.size w w'→w'.cell? ⟨A.be,2,none⟩=some (.pointer (some ⟨A.ba,0,none⟩))):=fun w' hb=>(hR.below hb).eng 2 rfl
 clear hls hR hok;go_enter Tryz.func42,Tryz.ntmps42;go_wp2
 go_loopw [3,6] (fun l i wr=>∃ k:Nat,k≤64∧i=zi (k:Int)∧Below w.heap.size w wr∧∃ av cap,l=.slice av (pairsTo σ k).length cap∧wr.ownsRow w.heap.size 172 2 l (pairsTo σ k).length (pairCs (pairsTo σ k))) (fun _ i _=>64 - (intOf i).toNat)
 case atStart=>exact⟨0,by omega,rfl,Below.refl _ _,none,0,rfl,rfl,.inl ⟨rfl,rfl⟩⟩
 case round=>
  obtain⟨k,hk,rfl,hb,av,cap,rfl,hown⟩:=hrel
  by_cases hlt:k<64
  · have hR:=HRR.out.1
    have hch:chainOk σ (σ.slots+1) (σ.word (9+k))=true:=by
     have h:=HRR.out.2;unfold okPairs at h;rw[List.all_eq_true] at h;exact h k (List.mem_range.2 hlt)
    have e2:=HE2.out wr hb;have n1:IntKind.i64.wrap ((k:Int)+1)=(k:Int)+1:=by rw[IntKind.wrap_i64];omega
    have n9:IntKind.i64.wrap (9+(k:Int))=9+(k:Int):=by rw[IntKind.wrap_i64];omega
    have HP0 := zH (show Calls Tryz.prog 78 #[.pointer (some ⟨A.ba, 0, none⟩), zi (9 + (k : Int))] wr (fun e w' => e = .returned (zu (σ.word (9 + k) : Int)) ∧ Below wr.heap.size wr w') from by
      have h:=peek_ok (hR.below hb) (Below.refl _ _) (9+k) (by rw[hR.nw];omega)
      rw[show ((9+k:Nat):Int)=9+(k:Int) by omega] at h
      exact h)
    have HK0:=zH (zA hown (zA hch hlt));have hm0:=pairsTo_le σ k;clear hch;go_wp2_with (go_at_call 78;refine HP0.out.mono ?_;rintro e w1 ⟨rfl,hb1⟩);obtain⟨hown,hch,_⟩:=HK0.out;generalize hPP:σ.pairAt (σ.slots+1) (σ.word (9+k))=PP;have hsu:=pairsTo_succ σ k;rw[hPP] at hsu;have HSU:=zH hsu;generalize hmm:(pairsTo σ k).length=m at*;generalize hxs:pairCs (pairsTo σ k)=xs at*;have HMX:=zH (zA hmm hxs);have hm4:m<4000000:=by omega
    clear hsu hmm hxs hm0 hk
    go_loopw [3,5] (fun l v wr2=>∃ link:Nat,v=zu (link:Int)∧(∃ n,chainOk σ n link=true∧σ.pairAt n link=PP)∧Below w.heap.size w wr2∧l=.slice av m cap∧wr2.ownsRow w.heap.size 172 2 l m xs) (fun _ v _=>leastF fun n=>chainOk σ n (intOf v).toNat=true∧σ.pairAt n (intOf v).toNat=PP)
    case atStart=>exact⟨_,rfl,⟨_,hch,hPP⟩,hb.trans (hb1.mono hb.size),rfl,own_same hown fun g hg=>hb1.block g (hown.lt g hg).2⟩
    case round=>
     clear hown hch hPP hb hb1 e2;obtain⟨link,rfl,hex,hb2,rfl,hown2⟩:=hrel;have hsp:=leastF_spec (P:=fun n=>chainOk σ n link=true∧σ.pairAt n link=PP) hex;obtain⟨n0,hn0⟩:∃ n0,(leastF fun n=>chainOk σ n link=true∧σ.pairAt n link=PP)=n0:=⟨_,rfl⟩
     rw[hn0] at hsp;have HN0:=zH hn0;clear hex hn0;obtain⟨hc0,hp0⟩:=hsp
     cases n0 with
     |zero=>cases hc0
     |succ n0=>
     by_cases h0:link=0
     · have hP:PP=none:=by rw[←hp0];unfold St.pairAt;rw[if_pos h0]
       have HO2:=zH (zA hb2 (zA hown2 hP));have hlt':=hlt;obtain⟨fl1,fl2,fl3,fl4,fl5⟩:=zeT (x:=link) (c:=0) (ci:=0) (by omega);clear hc0 hp0 h0 hP hown2 hb2 hlt hlt';go_wp2
       go_roundw
       case rel=>
        obtain⟨hb2,hown2,hP⟩:=HO2.out;have hsu:=HSU.out;rw[hP] at hsu;simp only[List.append_nil] at hsu;exact⟨k+1,HK0.out.2.2,rfl,hb2,av,cap,by rw[hsu,HMX.out.1],by rw[hsu,HMX.out.1,HMX.out.2];exact hown2⟩
       case measure=>have:=HK0.out.2.2;simp[intOf];omega
     · unfold chainOk at hc0
       unfold St.pairAt at hp0;rw[if_neg h0] at hp0;rw[show (link==0)=false by simpa using h0,Bool.false_or] at hc0;simp only[Bool.and_eq_true] at hc0;obtain⟨⟨⟨hv,hw0⟩,hw1⟩,hc1⟩:=hc0;have hvl:=vl_iff hv;have hr2:=HRR.out.1.below hb2;have hsl2:=hr2.sl;have e2:=HE2.out wr hb2;have HKE:Hid (∀ w',Below wr.heap.size wr w'→w'.cell? ⟨A.be,2,none⟩=some (.pointer (some ⟨A.ba,0,none⟩))):=fun w' hb=>(hr2.below hb).eng 2 rfl
       obtain⟨ws,hws⟩:∃ ws:Int→Int,∀ k:Nat,ws (k:Int)=((wslot link k:Nat):Int):=⟨fun z=>((wslot link z.toNat:Nat):Int),fun k=>rfl⟩
       obtain⟨pw,hpw⟩:∃ pw:Int→Int,∀ i:Nat,pw (i:Int)=((σ.word i:Nat):Int):=⟨fun z=>((σ.word z.toNat:Nat):Int),fun k=>rfl⟩
       obtain⟨dn,hdn⟩:∃ dn:Int→Bool,∀ x:Nat,dn (x:Int)=σ.done x:=⟨fun z=>σ.done z.toNat,fun k=>rfl⟩
       have e0:ws 0=((wslot link 0:Nat):Int):=hws 0;have e1:ws 1=((wslot link 1:Nat):Int):=hws 1;have e2w:ws 2=((wslot link 2:Nat):Int):=hws 2;have p0:pw (ws 0)=((σ.word (wslot link 0):Nat):Int):=by rw[e0];exact hpw _
       have p1:pw (ws 1)=((σ.word (wslot link 1):Nat):Int):=by rw[e1];exact hpw _
       have p2:pw (ws 2)=((σ.word (wslot link 2):Nat):Int):=by rw[e2w];exact hpw _
       have x0:dn (pw (ws 0))=σ.done (σ.word (wslot link 0)):=by rw[p0];exact hdn _
       have x1:dn (pw (ws 1))=σ.done (σ.word (wslot link 1)):=by rw[p1];exact hdn _
       have HSL:Hid (∀ z:Int,(z=0∨z=1∨z=2)→∀ w0,Calls Tryz.prog 79 #[zu (link:Int),zi z] w0 fun e w'=>e=.returned (zi (ws z))∧w0=w'):=by
        rintro z (rfl|rfl|rfl) w0
        · rw[e0];exact slot_at link 0 0 rfl hvl.lo (by have:=hvl.hi;omega) hvl.u (by omega) w0
        · rw[e1];exact slot_at link 1 1 rfl hvl.lo (by have:=hvl.hi;omega) hvl.u (by omega) w0
        · rw[e2w];exact slot_at link 2 2 rfl hvl.lo (by have:=hvl.hi;omega) hvl.u (by omega) w0
       have HPK:Hid (∀ z:Int,(z=ws 0∨z=ws 1∨z=ws 2)→∀ w0,Below wr.heap.size wr w0→Calls Tryz.prog 78 #[.pointer (some ⟨A.ba,0,none⟩),zi z] w0 fun e w'=>e=.returned (zu (pw z))∧Below wr.heap.size wr w'):=by
        rintro z (rfl|rfl|rfl) w0 hb
        · rw[p0,e0];exact peek_ok hr2 hb _ (wslot_lt hr2 hvl.lo hvl.hi (by omega))
        · rw[p1,e1];exact peek_ok hr2 hb _ (wslot_lt hr2 hvl.lo hvl.hi (by omega))
        · rw[p2,e2w];exact peek_ok hr2 hb _ (wslot_lt hr2 hvl.lo hvl.hi (by omega))
       have HDN:Hid (∀ z:Int,(z=pw (ws 0)∨z=pw (ws 1))→∀ w0,Below wr.heap.size wr w0→Calls Tryz.prog 80 #[.pointer (some ⟨A.be,0,none⟩),zu z] w0 fun e w'=>e=.returned (.bool (dn z))∧Below wr.heap.size wr w'):=by
        rintro z (rfl|rfl) w0 hb
        · rw[x0,p0];exact done_ok hr2 hb hw0
        · rw[x1,p1];exact done_ok hr2 hb hw1
       have HDT:Hid (∀ w0,Below wr.heap.size wr w0→(∀ w1,w1=w0→Calls Tryz.prog 81 #[.pointer (some ⟨A.be,0,none⟩),zu (link:Int)] w1 fun e w'=>e=.returned (.pointer (some ⟨A.bv,2*slotOf link,none⟩))∧w1=w')∧w0.cell? ⟨A.bv,2*slotOf link+1,none⟩=some (zi (σ.valueOf link:Int))∧Below w.heap.size w w0∧w0.ownsRow w.heap.size 172 2 (.slice av m cap) m xs):=fun w0 hb=>⟨fun w1 e=>by subst e;exact data_any (hr2.below hb) link hvl.lo hvl.hi hvl.u,((hr2.below hb).val (slotOf_lt hvl)).2,hb2.trans (hb.mono hb2.size),own_same hown2 fun g hg=>hb.block g (hown2.lt g hg).2⟩
       have HB0:Below wr.heap.size wr wr.drew:=(Below.refl _ _).drew;have HM4:=zH hm4;rw[←x0,←x1] at hc1 hp0;have HC1:=zH (zA hc1 hp0);obtain⟨fl1,fl2,fl3,fl4,fl5⟩:=zeF (x:=link) (c:=0) (ci:=0) (by omega);clear hv hw0 hw1 hc1 hp0 hvl hr2 hsl2 hb2 hown2 h0 hlt hm4;clear hws hpw hdn e0 e1 e2w p0 p1 x0 x1;generalize σ.word (wslot link 2)=xn at*;have HP2:=zH p2;clear p2;go_wp2_with fail
       cases hdb:dn (pw (ws 0)) with
       |true=>
        rw[hdb] at HC1
        cases hde:dn (pw (ws 1)) with
        |true=>
         rw[hde] at HC1
         go_region_held3 (fun w'=>w'.cell? ⟨A.be,2,none⟩=some (.pointer (some ⟨A.ba,0,none⟩)))
          (first|exact e2|assumption|exact HKE.out _ (by assumption))
          (first|(go_at_call 79;refine (HSL.out _ (by first|exact Or.inl rfl|exact Or.inr (Or.inl rfl)|exact Or.inr (Or.inr rfl)) _).mono ?_;rintro e w' ⟨rfl,rfl⟩)|(go_at_call 78;refine (HPK.out _ (by first|exact Or.inl rfl|exact Or.inr (Or.inl rfl)|exact Or.inr (Or.inr rfl)) _ (by assumption)).mono ?_;rintro e w3 ⟨rfl,hb3⟩)|(go_at_call 80;refine (HDN.out _ (by first|exact Or.inl rfl|exact Or.inr rfl) _ (by assumption)).mono ?_;rintro e w4 ⟨rfl,hb4⟩))
         clear HB0;go_wp2_with fail;have e2':=HKE.out _ hb4;obtain⟨_,_,hbw,how⟩:=HDT.out _ hb4;have HBD:=(hb4).drew
         go_region_held3 (fun w'=>w'.cell? ⟨A.be,2,none⟩=some (.pointer (some ⟨A.ba,0,none⟩)))
          (first|exact e2'|assumption|exact HKE.out _ (by assumption))
          (first|(go_at_call 79;refine (HSL.out _ (by first|exact Or.inl rfl|exact Or.inr (Or.inl rfl)|exact Or.inr (Or.inr rfl)) _).mono ?_;rintro e w' ⟨rfl,rfl⟩)|(go_at_call 78;refine (HPK.out _ (by first|exact Or.inl rfl|exact Or.inr (Or.inl rfl)|exact Or.inr (Or.inr rfl)) _ (by assumption)).mono ?_;rintro e w7 ⟨rfl,hb7⟩))
         obtain⟨_,_,hbw7,how7⟩:=HDT.out _ hb7;have HO7:=zH (zA hbw7 how7);clear hbw how hbw7 how7;go_wp2_with fail
         go_roundw
         case rel=>
          obtain⟨hc1,hp0⟩:=HC1.out;exact⟨xn,by rw[HP2.out],⟨n0,by simpa using hc1,by simpa using hp0⟩,HO7.out.1,rfl,HO7.out.2⟩
         case measure=>
          obtain⟨hc1,hp0⟩:=HC1.out;rw[HP2.out];exact Nat.lt_of_le_of_lt (leastF_le (P:=fun n=>chainOk σ n xn=true∧σ.pairAt n xn=PP) ⟨by simpa using hc1,by simpa using hp0⟩) (Nat.lt_of_lt_of_eq (Nat.lt_succ_self n0) HN0.out.symm)
        |false=>
         rw[hde] at HC1
         go_region_held3 (fun w'=>w'.cell? ⟨A.be,2,none⟩=some (.pointer (some ⟨A.ba,0,none⟩)))
          (first|exact e2|assumption|exact HKE.out _ (by assumption))
          (first|(go_at_call 79;refine (HSL.out _ (by first|exact Or.inl rfl|exact Or.inr (Or.inl rfl)|exact Or.inr (Or.inr rfl)) _).mono ?_;rintro e w' ⟨rfl,rfl⟩)|(go_at_call 78;refine (HPK.out _ (by first|exact Or.inl rfl|exact Or.inr (Or.inl rfl)|exact Or.inr (Or.inr rfl)) _ (by assumption)).mono ?_;rintro e w3 ⟨rfl,hb3⟩)|(go_at_call 80;refine (HDN.out _ (by first|exact Or.inl rfl|exact Or.inr rfl) _ (by assumption)).mono ?_;rintro e w4 ⟨rfl,hb4⟩))
         clear HB0;obtain⟨hdt,hval,hbw,how⟩:=HDT.out _ hb4;have HDD:=zH (hdt _ rfl);have hm4:=HM4.out;have hPv:PP=some (σ.valueOf link):=by have h:=HC1.out.2;simpa using h.symm
         have HPV:=zH hPv;clear hdt hPv;generalize 2*slotOf link=iv at*;generalize σ.valueOf link=va at*;go_wp2_with (first|(go_at_call 81;refine HDD.out.mono ?_;rintro e w' ⟨rfl,rfl⟩)|(refine wp_pair _ rfl _ _ rfl w (by assumption) _ _ _ _ rfl (by assumption) (by omega) _ _ rfl ?_;intro avl capl wl ql pl))
         go_roundw
         case rel=>
          have hsu:=HSU.out;rw[HPV.out] at hsu;simp only at hsu;refine⟨k+1,HK0.out.2.2,rfl,pl,avl,capl,by rw[hsu,List.length_append,HMX.out.1];rfl,?_⟩;rw[hsu,pairCs_snoc,List.length_append,HMX.out.1,HMX.out.2];exact ql
         case measure=>have:=HK0.out.2.2;simp[intOf];omega
       |false=>
        rw[hdb] at HC1;refine wp_region_held_drew (S:=fun w'=>w'.cell? ⟨A.be,2,none⟩=some (.pointer (some ⟨A.ba,0,none⟩))) (by kernel_rfl) ?_ (fun hHeld=>?_)
        · (try dsimp only);exact e2
        refine zqt (i:=0) rfl hHeld ?_
        (try simp only[zqa,zqb,zqc,Act.put,zqd,zqe,zqf])
        refine zqt (i:=1) rfl hHeld ?_
        (try simp only[zqa,zqb,zqc,Act.put,zqd,zqe,zqf])
        refine zqt (i:=2) rfl hHeld ?_
        (try simp only[zqa,zqb,zqc,Act.put,zqd,zqe,zqf])
        refine zqt (i:=3) rfl hHeld ?_
        (try simp only[zqa,zqb,zqc,Act.put,zqd,zqe,zqf])
        refine zqt (i:=4) rfl hHeld ?_
        (try simp only[zqa,zqb,zqc,Act.put,zqd,zqe,zqf])
        refine zqt (i:=5) rfl hHeld ?_
        (try simp only[zqa,zqb,zqc,Act.put,zqd,zqe,zqf])
        refine wpAnyH_ready (rs:=[6]) (by kernel_rfl) (by simp) ?_;refine AllReadyH.cons (o:=_) rfl (fun K hK=>?_) ?_;rotate_left
        · exact AllReadyH.nil
        go_simp
        (first|(go_at_call 79;refine (HSL.out _ (by first|exact Or.inl rfl|exact Or.inr (Or.inl rfl)|exact Or.inr (Or.inr rfl)) _).mono ?_;rintro e w' ⟨rfl,rfl⟩)|(go_at_call 78;refine (HPK.out _ (by first|exact Or.inl rfl|exact Or.inr (Or.inl rfl)|exact Or.inr (Or.inr rfl)) _ (by assumption)).mono ?_;rintro e w3 ⟨rfl,hb3⟩)|(go_at_call 80;refine (HDN.out _ (by first|exact Or.inl rfl|exact Or.inr rfl) _ (by assumption)).mono ?_;rintro e w4 ⟨rfl,hb4⟩))
        refine hK.out _ _ ?_ (fun hHeld=>?_)
        · (try dsimp only);exact HKE.out _ (by assumption)
        clear hK K
        (try simp only[zqa,zqb,zqc,Act.put,zqd,zqe,zqf])
        refine wpAnyH_ready (rs:=[7]) (by kernel_rfl) (by simp) ?_;refine AllReadyH.cons (o:=_) rfl (fun K hK=>?_) ?_;rotate_left
        · exact AllReadyH.nil
        go_simp
        (first|(go_at_call 79;refine (HSL.out _ (by first|exact Or.inl rfl|exact Or.inr (Or.inl rfl)|exact Or.inr (Or.inr rfl)) _).mono ?_;rintro e w' ⟨rfl,rfl⟩)|(go_at_call 78;refine (HPK.out _ (by first|exact Or.inl rfl|exact Or.inr (Or.inl rfl)|exact Or.inr (Or.inr rfl)) _ (by assumption)).mono ?_;rintro e w3 ⟨rfl,hb3⟩)|(go_at_call 80;refine (HDN.out _ (by first|exact Or.inl rfl|exact Or.inr rfl) _ (by assumption)).mono ?_;rintro e w4 ⟨rfl,hb4⟩))
        refine hK.out _ _ ?_ (fun hHeld=>?_)
        · (try dsimp only);exact HKE.out _ (by assumption)
        clear hK K
        (try simp only[zqa,zqb,zqc,Act.put,zqd,zqe,zqf])
        refine wpAnyH_ready (rs:=[8]) (by kernel_rfl) (by simp) ?_;refine AllReadyH.cons (o:=_) rfl (fun K hK=>?_) ?_;rotate_left
        · exact AllReadyH.nil
        go_simp
        (first|(go_at_call 79;refine (HSL.out _ (by first|exact Or.inl rfl|exact Or.inr (Or.inl rfl)|exact Or.inr (Or.inr rfl)) _).mono ?_;rintro e w' ⟨rfl,rfl⟩)|(go_at_call 78;refine (HPK.out _ (by first|exact Or.inl rfl|exact Or.inr (Or.inl rfl)|exact Or.inr (Or.inr rfl)) _ (by assumption)).mono ?_;rintro e w3 ⟨rfl,hb3⟩)|(go_at_call 80;refine (HDN.out _ (by first|exact Or.inl rfl|exact Or.inr rfl) _ (by assumption)).mono ?_;rintro e w4 ⟨rfl,hb4⟩))
        refine hK.out _ _ ?_ (fun hHeld=>?_)
        · (try dsimp only);exact HKE.out _ (by assumption)
        clear hK K
        (try simp only[zqa,zqb,zqc,Act.put,zqd,zqe,zqf])
        refine zqt (i:=9) rfl hHeld ?_
        (try simp only[zqa,zqb,zqc,Act.put,zqd,zqe,zqf])
        refine wpAnyH_take (i:=10) (v:=undef) rfl (by kernel_rfl) (by kernel_rfl) (by kernel_rfl) (fun _ _ _ h=>h) (Or.inr ⟨by rfl,rfl⟩) hHeld ?_
        (try simp only[zqa,zqb,zqc,Act.put,zqd,zqe,zqf])
        refine wpAnyH_take (i:=11) (v:=undef) rfl (by kernel_rfl) (by kernel_rfl) (by kernel_rfl) (fun _ _ _ h=>h) (Or.inr ⟨by rfl,rfl⟩) hHeld ?_
        (try simp only[zqa,zqb,zqc,Act.put,zqd,zqe,zqf])
        refine wpAnyH_take (i:=12) (v:=undef) rfl (by kernel_rfl) (by kernel_rfl) (by kernel_rfl) (fun _ _ _ h=>h) (Or.inr ⟨by rfl,rfl⟩) hHeld ?_
        (try simp only[zqa,zqb,zqc,Act.put,zqd,zqe,zqf])
        refine wpAnyH_take (i:=13) (v:=undef) rfl (by kernel_rfl) (by kernel_rfl) (by kernel_rfl) (fun _ _ _ h=>h) (Or.inr ⟨by rfl,rfl⟩) hHeld ?_
        (try simp only[zqa,zqb,zqc,Act.put,zqd,zqe,zqf])
        refine wpAnyH_take (i:=14) (v:=undef) rfl (by kernel_rfl) (by kernel_rfl) (by kernel_rfl) (fun _ _ _ h=>h) (Or.inr ⟨by rfl,rfl⟩) hHeld ?_
        (try simp only[zqa,zqb,zqc,Act.put,zqd,zqe,zqf])
        refine wpAnyH_take (i:=15) (v:=undef) rfl (by kernel_rfl) (by kernel_rfl) (by kernel_rfl) (fun _ _ _ h=>h) (Or.inr ⟨by rfl,rfl⟩) hHeld ?_
        (try simp only[zqa,zqb,zqc,Act.put,zqd,zqe,zqf])
        refine wpAnyH_take (i:=16) (v:=undef) rfl (by kernel_rfl) (by kernel_rfl) (by kernel_rfl) (fun _ _ _ h=>h) (Or.inr ⟨by rfl,rfl⟩) hHeld ?_
        (try simp only[zqa,zqb,zqc,Act.put,zqd,zqe,zqf])
        refine wpAnyH_take (i:=17) (v:=undef) rfl (by kernel_rfl) (by kernel_rfl) (by kernel_rfl) (fun _ _ _ h=>h) (Or.inr ⟨by rfl,rfl⟩) hHeld ?_
        (try simp only[zqa,zqb,zqc,Act.put,zqd,zqe,zqf])
        refine wpAnyH_take (i:=18) (v:=undef) rfl (by kernel_rfl) (by kernel_rfl) (by kernel_rfl) (fun _ _ _ h=>h) (Or.inr ⟨by rfl,rfl⟩) hHeld ?_
        (try simp only[zqa,zqb,zqc,Act.put,zqd,zqe,zqf])
        refine wpAnyH_take (i:=19) (v:=undef) rfl (by kernel_rfl) (by kernel_rfl) (by kernel_rfl) (fun _ _ _ h=>h) (Or.inr ⟨by rfl,rfl⟩) hHeld ?_
        (try simp only[zqa,zqb,zqc,Act.put,zqd,zqe,zqf])
        refine zqt (i:=20) rfl hHeld ?_
        (try simp only[zqa,zqb,zqc,Act.put,zqd,zqe,zqf])
        refine wpAnyH_done (by kernel_rfl) ?_ _;clear HB0;go_wp2_with fail;have e2':=HKE.out _ hb4;obtain⟨_,_,hbw,how⟩:=HDT.out _ hb4;have HBD:=(hb4).drew
        go_region_held3 (fun w'=>w'.cell? ⟨A.be,2,none⟩=some (.pointer (some ⟨A.ba,0,none⟩)))
         (first|exact e2'|assumption|exact HKE.out _ (by assumption))
         (first|(go_at_call 79;refine (HSL.out _ (by first|exact Or.inl rfl|exact Or.inr (Or.inl rfl)|exact Or.inr (Or.inr rfl)) _).mono ?_;rintro e w' ⟨rfl,rfl⟩)|(go_at_call 78;refine (HPK.out _ (by first|exact Or.inl rfl|exact Or.inr (Or.inl rfl)|exact Or.inr (Or.inr rfl)) _ (by assumption)).mono ?_;rintro e w7 ⟨rfl,hb7⟩))
        obtain⟨_,_,hbw7,how7⟩:=HDT.out _ hb7;have HO7:=zH (zA hbw7 how7);clear hbw how hbw7 how7;go_wp2_with fail
        go_roundw
        case rel=>
         obtain⟨hc1,hp0⟩:=HC1.out;exact⟨xn,by rw[HP2.out],⟨n0,by simpa using hc1,by simpa using hp0⟩,HO7.out.1,rfl,HO7.out.2⟩
        case measure=>
         obtain⟨hc1,hp0⟩:=HC1.out;rw[HP2.out];exact Nat.lt_of_le_of_lt (leastF_le (P:=fun n=>chainOk σ n xn=true∧σ.pairAt n xn=PP) ⟨by simpa using hc1,by simpa using hp0⟩) (Nat.lt_of_lt_of_eq (Nat.lt_succ_self n0) HN0.out.symm)
  · obtain rfl:k=64:=by omega
    have HO:=zH (zA hown hb);clear hown hb hlt hk;go_wp2;go_ret;exact⟨av,cap,rfl,HO.out.1,HO.out.2⟩
structure EAt (b:Nat) (w0:World) (σ:St) (w:World):Prop where
 ex:∃ A:Book,A.be=b∧Live A σ w∧Grow (fun _=>none) w0 A.L w
theorem new_at (n l:Nat) (h1:1≤n) (h2:n≤256) (h3:1≤l) (h4:l≤1099511627776) (w:World):
 Calls Tryz.prog 30 #[.agg #[zi (n:Int),zu (l:Int)]] w fun e w'=>∃ b,e=.returned (.tuple #[.pointer (some ⟨b,0,none⟩),zi 0])∧EAt b w (new n l) w':=by
 refine (engineNew n l h1 h2 h3 h4 w).mono ?_;rintro e w' ⟨A,rfl,hL,g⟩;exact⟨A.be,rfl,A,rfl,hL,g⟩
inductive Kept where
 |obj (k:Nat) (o:Obj)
 |row (size:Nat) (v:Value) (xs:List Value)
 |far (k:Nat) (o:Obj)
 |floor (n:Nat)
def Kept.holds (L:Lab) (w:World):Kept→Prop
 |.obj k o=>Fix L w k o
 |.row size v xs=>FRow L w size v xs
 |.far k o=>L k=some .tmp∧w.heap[k]? =some o
 |.floor n=>n≤w.heap.size
def Kepts (L:Lab) (w:World):List Kept→Prop
 |[]=>True
 |k::ks=>k.holds L w∧Kepts L w ks
structure EKt (b:Nat) (w0:World) (ks:List Kept) (σ:St) (w:World):Prop where
 ex:∃ A:Book,A.be=b∧Live A σ w∧Grow (fun _=>none) w0 A.L w∧Kepts A.L w ks
theorem EAt.kt {b:Nat} {w0 w:World} {σ:St} (h:EAt b w0 σ w):EKt b w0 [] σ w:=let ⟨A,e,l,g⟩:=h.ex;⟨A,e,l,g,trivial⟩
end Go.Proofs.YtiimlopcifljeaaGreatDoor.Em
