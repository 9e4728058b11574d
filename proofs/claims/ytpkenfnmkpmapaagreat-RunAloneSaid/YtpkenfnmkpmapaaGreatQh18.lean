import Derived.Test.YtpkenfnmkpmapaaGreatQh15
import Derived.Test.YtpkenfnmkpmapaaGreatQh17
import Derived.Test.YtpkenfnmkpmapaaGreatQh16
namespace Go.Proofs.YtpkenfnmkpmapaaGreat.Em
open Go.ChangeShapes Go.WideShapes Go.ChangeAt Go.RowKit En
set_option linter.unusedVariables false
set_option linter.unusedSimpArgs false
set_option maxRecDepth 100000
set_option maxHeartbeats 1600000
variable {A:Book} {σ:St} {w:World}
theorem scan_tells (s:Nat):∀ (n:Nat) {A:Book} {σ:St} {w:World} (hR:Rep A σ w) (t:Txn) (ht:σ.txns.getD s none=some t) (c:Cal) (hc:σ.calls.getD s none=some c) (key:Nat) (hnk:n=c.op.hi+1 - key) (hk64:key≤64) (hhi:c.op.hi≤63) (hcx:CelsOk σ t) (hpl:c.r.pairs.length+n<1000000),
 Calls Tryz.prog 89 #[.pointer (some ⟨A.be,0,none⟩),.pointer (some ⟨A.bt s,0,none⟩),.pointer (some ⟨A.bc s,0,none⟩),zi (key:Int)] w (Tells A w s (scanN s n σ key)):=by
 intro n
 induction n with
 |zero=>
  intro A σ w hR t ht c hc key hnk hk64 hhi hcx hpl;have h:=scan_end hR s t ht c hc key (by omega);have e:scanN s 0 σ key=(σ,.fin c.r):=by unfold scanN;rw[call_get hc]
  rw[e];exact h
 |succ n ih=>
  intro A σ w hR t ht c hc key hnk hk64 hhi hcx hpl;have ec:=call_get hc;have et:=txn_get ht;have hk:¬ c.op.hi<key:=by omega
  cases hx:t.cell key with
  |none=>
   have h:=scan_find hR s t ht c hc key hk hx;rw[scanN_none s n σ key (by rw[ec];exact hk) (by rw[et];exact hx),et];exact h
  |some x=>
   rw[scanN_some s n σ key x (by rw[ec];exact hk) (by rw[et];exact hx)]
   cases hth:x.there with
   |false=>
    rw[if_neg (by decide)];refine scan_past hR s t ht c hc key hk (by omega) x hx hth _ fun A' w' r st bx=>?_
    have h:=ih r t ht c hc (key+1) (by omega) (by omega) hhi hcx (by omega);rw[st.be,st.bt,st.bc] at h;exact h
   |true=>
    rw[if_pos rfl];refine scan_told hR s t ht c hc key hk (by omega) x hx hth (hcx key x hx hth) (by omega) _ fun A' w' r st bx=>?_
    have hc2:(σ.tell s key (σ.valueOf x.own)).calls.getD s none=some {c with r:={c.r with pairs:=c.r.pairs++[(key,σ.valueOf x.own)]}}:=by
     unfold St.tell;rw[ec,getC_set (lt_of_call hc),if_pos rfl]
    have h:=ih r t ht _ hc2 (key+1) (by simp only;omega) (by omega) hhi (fun k y hy hty=>let q:=hcx k y hy hty;⟨q.lo,q.hi,q.u⟩) (by simp only[List.length_append,List.length_cons,List.length_nil];omega);rw[st.be,st.bt,st.bc] at h;exact h
theorem scan_any (hR:Rep A σ w) (s:Nat) (t:Txn) (ht:σ.txns.getD s none=some t) (c:Cal) (hc:σ.calls.getD s none=some c) (key:Nat) (hk64:key≤64) (hhi:c.op.hi≤63) (hcx:CelsOk σ t) (hpl:c.r.pairs.length<100000):
 Calls Tryz.prog 89 #[.pointer (some ⟨A.be,0,none⟩),.pointer (some ⟨A.bt s,0,none⟩),.pointer (some ⟨A.bc s,0,none⟩),zi (key:Int)] w (Tells A w s (σ.scan s key)):=by
 have h:=scan_tells s (c.op.hi+1 - key) hR t ht c hc key rfl hk64 hhi hcx (by omega);unfold St.scan;rw[call_get hc];exact h
theorem k_scan (hR:Rep A σ w) (s:Nat) (t:Txn) (ht:σ.txns.getD s none=some t) (c:Cal) (hc:σ.calls.getD s none=some c) (key link at_ b0 b1 b2 b3 b4:Nat) (B0:Box A.L w b0 (.pointer (some ⟨A.bt s,0,none⟩))) (B1:Box A.L w b1 (zi (key:Int))) (B2:TellBox (kp A σ s) A.L w b2 key) (B3:Box A.L w b3 (.pointer (some ⟨A.be,0,none⟩))) (B4:Box A.L w b4 (.pointer (some ⟨A.bc s,0,none⟩))) (hl:link=0∨VL σ link) (hk:key≤63) (hhi:c.op.hi≤63) (hcx:CelsOk σ t) (hpl:c.r.pairs.length<100000 - 1) (hn:t.reads.length<1000000):
 Calls Tryz.prog 110 #[zu (link:Int),.pointer (some ⟨b0,0,none⟩),.pointer (some ⟨b1,0,none⟩),.pointer (some ⟨b2,0,none⟩),.pointer (some ⟨b3,0,none⟩),.pointer (some ⟨b4,0,none⟩)] w (Tells A w s (σ.thn s ⟨key,at_,.scan key⟩ link)):=by
 obtain⟨vt,X2,m0,m1,hvt,N0,N1⟩:=B2;have c0:=B0.cell;have c1:=B1.cell;have n1:IntKind.i64.wrap ((key:Int)+1)=(key:Int)+1:=by rw[IntKind.wrap_i64];omega
 have hr:=read_any hR s t ht key link false hn;have HR:=zH hr;have ht1:∀ σ':St,σ'=σ.read s key link false→∃ t',σ'.txns.getD s none=some t'∧t'.cells=t.cells:=by
  rintro σ' rfl;refine⟨{t with reads:=t.reads++[(key,link,false)]},?_,rfl⟩;unfold St.read;rw[getT_set (lt_of_txn ht),if_pos rfl,txn_get ht]
 have hslots:(σ.read s key link false).slots=σ.slots:=rfl;have hcalls:(σ.read s key link false).calls=σ.calls:=rfl;have hvals:(σ.read s key link false).valueOf link=σ.valueOf link:=rfl;have hcx1:∀ (σ':St) (t':Txn),σ'.slots=σ.slots→t'.cells=t.cells→CelsOk σ' t':=by
  intro σ' t' h1 h2 k y hy hty;have q:=hcx k y (by unfold Txn.cell at hy ⊢;rw[←h2];exact hy) hty;exact⟨q.lo,by rw[h1];exact q.hi,q.u⟩
 have hlt:=lt_of_call hc;obtain⟨σ1,hσ1⟩:∃ σ1,σ1=σ.read s key link false:=⟨_,rfl⟩
 obtain⟨t1,ht1',htc⟩:=ht1 σ1 hσ1;rw[←hσ1] at hslots hcalls hvals HR;have e1:σ.thn s ⟨key,at_,.scan key⟩ link=(if link=0 then σ1 else σ1.tell s key (σ1.valueOf link)).scan s (key+1):=by simp only[St.thn,←hσ1]
 rw[e1];have HB:Hid (∀ (A1:Book) w1,Grow A.L w A1.L w1→w1.cell? ⟨b0,0,none⟩=some (.pointer (some ⟨A.bt s,0,none⟩))∧w1.cell? ⟨b1,0,none⟩=some (zi (key:Int))∧w1.cell? ⟨b2,0,none⟩=some vt∧w1.cell? ⟨b3,0,none⟩=some (.pointer (some ⟨A.be,0,none⟩))∧w1.cell? ⟨b4,0,none⟩=some (.pointer (some ⟨A.bc s,0,none⟩))):=fun A1 w1 g=>⟨(B0.grow g).cell,(B1.grow g).cell,(X2.grow g).cell,(B3.grow g).cell,(B4.grow g).cell⟩
 have hc1:σ1.calls.getD s none=some c:=by rw[hcalls];exact hc
 have HSC:Hid (∀ (A1:Book) w1,Rep A1 σ1 w1→Stay A A1 s→Calls Tryz.prog 89 #[.pointer (some ⟨A.be,0,none⟩),.pointer (some ⟨A.bt s,0,none⟩),.pointer (some ⟨A.bc s,0,none⟩),zi ((key:Int)+1)] w1 (Tells A1 w1 s (σ1.scan s (key+1)))):=by
  intro A1 w1 r st;have h:=scan_any r s t1 ht1' c hc1 (key+1) (by omega) hhi (hcx1 σ1 t1 hslots htc) (by omega);rw[st.be,st.bt,st.bc] at h;exact h
 have HTL:Hid (link≠0→∀ (A1:Book) w1,Rep A1 σ1 w1→Grow A.L w A1.L w1→Stay A A1 s→Calls Tryz.prog 74 #[.pointer (some ⟨A.be,0,none⟩),zu (link:Int)] w1.drew (fun e w'=>e=.returned (.pointer (some ⟨A1.bv,2*slotOf link,none⟩))∧w'=w1.drew)∧w1.drew.cell? ⟨A1.bv,2*slotOf link+1,none⟩=some (zi (σ1.valueOf link:Int))∧Calls Tryz.prog 109 #[zi (σ1.valueOf link:Int),ptr m0,ptr m1] w1.drew (TldP A1 w1.drew s (σ1.tell s key (σ1.valueOf link)))):=by
  intro h0 A1 w1 r g st;have hv:=hl.resolve_left h0;have hv1:VL σ1 link:=⟨hv.lo,by rw[hslots];exact hv.hi,hv.u⟩
  have gd:=g.trans (Grow.drew _ _);have hd:=flip (data_any r.drew link hv1.lo hv1.hi hv1.u);rw[st.be] at hd;have N0':Box A1.L w1.drew m0 (ptr (A1.bc s)):=by
   have:=N0.grow gd;show Box A1.L w1.drew m0 (ptr (A1.bc s));rw[st.bc];exact this
  exact⟨hd,(r.drew.val (slotOf_lt hv1)).2,tellP_any r.drew s c hc1 key (σ1.valueOf link) m0 m1 N0' (N1.grow gd) (by omega)⟩
 have HS2:Hid (∀ (A1:Book) w1,Rep A1 (σ1.tell s key (σ1.valueOf link)) w1→Stay A A1 s→Calls Tryz.prog 89 #[.pointer (some ⟨A.be,0,none⟩),.pointer (some ⟨A.bt s,0,none⟩),.pointer (some ⟨A.bc s,0,none⟩),zi ((key:Int)+1)] w1 (Tells A1 w1 s ((σ1.tell s key (σ1.valueOf link)).scan s (key+1)))):=by
  intro A1 w1 r st;have hc2:(σ1.tell s key (σ1.valueOf link)).calls.getD s none=some {c with r:={c.r with pairs:=c.r.pairs++[(key,σ1.valueOf link)]}}:=by
   unfold St.tell;rw[call_get hc1,getC_set (lt_of_call hc1),if_pos rfl]
  have h:=scan_any r s t1 ht1' _ hc2 (key+1) (by omega) hhi (hcx1 _ t1 hslots htc) (by simp only[List.length_append,List.length_cons,List.length_nil];omega);rw[st.be,st.bt,st.bc] at h;exact h
 clear hR ht hc hl hk hhi hcx hpl hn hr ht1 hslots hcalls hvals hcx1 hlt e1 hc1 htc ht1' B0 B1 X2 B3 B4 N0 N1 hσ1;subst hvt;generalize σ1.valueOf link=va at*
 by_cases h0:link=0
 · rw[if_pos h0]
   obtain⟨fl1,fl2,fl3,fl4,fl5⟩:=zeT (x:=link) (c:=0) (ci:=0) (by omega);clear h0 HTL HS2;go_enter Tryz.func110,Tryz.ntmps110;go_wp2_with (first|(go_at_call 108;refine HR.out.mono ?_;rintro e w1 ⟨rfl,A1,q1,q2,q3,q4,q5⟩;obtain⟨d0,d1,d2,d3,d4⟩:=HB.out A1 w1 q2;have HQ:=zH (zA q1 (zA q2 q3));have HSS:=zH (HSC.out A1 w1 q1 q3);clear q1 q2 q3 q4 q5)|(go_at_call 89;refine HSS.out.mono ?_;rintro e w2 ⟨A2,v,rfl,p1,p2,p3,p4⟩));go_ret;exact⟨A2,v,rfl,p1,HQ.out.2.1.trans p2,HQ.out.2.2.trans p3,p4⟩
 · rw[if_neg h0]
   obtain⟨fl1,fl2,fl3,fl4,fl5⟩:=zeF (x:=link) (c:=0) (ci:=0) (by omega);have HT0:=zH (HTL.out h0);clear h0 HTL HSC;go_enter Tryz.func110,Tryz.ntmps110;go_wp2_with (go_at_call 108;refine HR.out.mono ?_;rintro e w1 ⟨rfl,A1,q1,q2,q3,q4,q5⟩;obtain⟨d0,d1,d2,d3,d4⟩:=HB.out A1 w1 q2;have HQ:=zH (zA q1 (zA q2 q3));clear q1 q2 q3 q4 q5);obtain⟨hd,hv,ht⟩:=HT0.out A1 w1 HQ.out.1 HQ.out.2.1 HQ.out.2.2;have HD:=zH hd;have HT:=zH ht;clear hd ht;go_wp2_with fail;refine wp_region_still_tail 7 (by kernel_rfl) (by kernel_rfl) ?_;simp only[zta,ztb,ztc,ztd]
   repeat still_step
   still_call HD.out
   repeat still_step
   refine wpStill_nil ?_;change wpList _ _ _ _ _ w1.drew;have HGD:=zH (HQ.out.2.1.trans (Grow.drew A1.L w1));generalize w1.drew=wd at*;go_wp2_with (first|(go_at_call 109;refine HT.out.mono ?_;rintro e w2 ⟨rfl,A2,p1,p2,p3,p4⟩;obtain⟨d0,d1,d2,d3,d4⟩:=HB.out A2 w2 (HGD.out.trans p2);have HSS:=zH (HS2.out A2 w2 p1 (HQ.out.2.2.trans p3));have HY:=zH (zA (HGD.out.trans p2) (HQ.out.2.2.trans p3));clear p1 p2 p3 p4)|(go_at_call 89;refine HSS.out.mono ?_;rintro e w3 ⟨A3,v,rfl,p1,p2,p3,p4⟩));go_ret;exact⟨A3,v,rfl,p1,HY.out.1.trans p2,HY.out.2.trans p3,p4⟩
def vl (σ:St) (l:Nat):Bool:=decide (1≤l % 131072)&&decide (l % 131072≤σ.slots)&&decide (l<18446744073709551616)
def vl0 (σ:St) (l:Nat):Bool:=l==0||vl σ l
def okPool (σ:St):Bool:=decide (σ.free.length<100000)&&σ.free.all (fun i=>decide (i<σ.slots))&&σ.tags.all (fun p=>decide (p.1≤65535))&&decide (σ.worn<1000000)
def okKeys (σ:St) (t:Txn):Bool:=t.keys.all fun key=>match t.cell key with|some x=>vl0 σ x.own&&vl0 σ x.old|none=>false
def okCels (σ:St) (t:Txn):Bool:=t.cells.all fun p=>!p.2.there||vl σ p.2.own
def okThn (σ:St) (s:Nat) (h:Hunt) (link:Nat):Bool:=decide ((σ.t s).reads.length<1000000)&&match h.thn with
 |.get=>vl0 σ link
 |.scan k=>decide (k=h.key)&&vl0 σ link&&decide (k≤63)&&decide ((σ.c s).op.hi≤63)&&okCels σ (σ.t s)&&decide ((σ.c s).r.pairs.length<90000)
 |.change=>decide ((σ.c s).op.key=h.key)
 |.judge i _=>decide (i+1≤(σ.t s).reads.length)
def small (σ:St) (i:Nat):Bool:=decide (σ.word i<18446744073709551616)
def okBinds (σ:St) (s:Nat):Bool:=decide ((σ.t s).bonds.length<1000000)&&decide (σ.tale.length<1000000)
def okK (σ:St) (s:Nat) (k:K):Bool:=
 decide (σ.count<3000000000000000000)&&match k with
 |.fin _=>true
 |.start h=>decide (h.key<64)&&(σ.word (9+h.key) !=0||okThn σ s h 0)
 |.visit h link=>vl σ link&&small σ (wslot link 0)
 |.older h link=>vl σ link&&(σ.word (wslot link 2) !=0||okThn σ s h 0)
 |.maker h link id=>decide (id≤2000)&&small σ (σ.place id)
 |.ended h link mb=>vl σ link&&small σ (wslot link 1)&&(mb !=0||okThn σ s h link)
 |.ender h link mb id=>decide (id≤2000)&&small σ (σ.place id)&&okBinds σ s&&(mb !=0||okThn σ s h link)
 |.seen h link mb=>decide (mb≤2000)&&small σ (σ.place mb)&&okBinds σ s&&okThn (if stateOf (σ.word (σ.place mb))=2 then σ.tick.bind s mb else σ.tick) s h link
 |.again _=>match (σ.t s).cell (σ.c s).op.key with|some x=>vl σ x.own|none=>false
 |.own link=>vl σ link&&small σ (wslot link 1)
 |.ownTxn _ _ id=>decide (id≤2000)&&small σ (σ.place id)
 |.claim link _=>vl σ link&&decide (1≤(σ.t s).id)&&decide ((σ.t s).id≤65535)&&((σ.t s).cell (σ.c s).op.key).isNone&&decide ((σ.t s).keys.length<1000000)&&okPool σ
 |.fresh link=>vl0 σ link&&decide ((σ.c s).op.key<64)&&okPool σ
 |.next link _ at_=>vl0 σ link&&vl σ at_&&okPool σ
 |.free link _ at_=>vl0 σ link&&vl σ at_&&okPool σ&&small σ (wslot at_ 0)
 |.freeTxn link _ _ id=>vl0 σ link&&decide (id≤2000)&&small σ (σ.place id)&&okPool σ
 |.slotB x link head=>vl σ link&&decide (1≤(σ.t s).id)&&decide ((σ.t s).id≤65535)
 |.slotE x link head=>vl σ link
 |.push link head=>vl σ link
 |.pushC link head=>decide ((σ.c s).op.key<64)&&((σ.t s).cell (σ.c s).op.key).isNone&&decide ((σ.t s).keys.length<1000000)
 |.over _=>decide ((σ.c s).op.key<64)
 |.overN link _=>vl σ link
 |.overC _ _=>decide ((σ.c s).op.key<64)&&((σ.t s).cell (σ.c s).op.key).isSome
 |.draw=>decide (σ.word 0<18446744073709551616)
 |.drawH x now=>decide (x<18446744073709551616)&&decide (lastOf x≤2000)
 |.turn x now=>decide (now<281474976710655)&&decide ((σ.t s).id<65536)&&decide (σ.tale.length<1000000)
 |.helpJ=>decide ((σ.t s).end_<281474976710656)&&decide ((σ.t s).id≤2000)&&decide ((σ.t s).reads.length<1000000)
 |.wait i=>match (σ.t s).bonds[i]? with|some bd=>decide (bd≤2000)&&small σ (σ.place bd)&&decide ((σ.t s).bonds.length<1000000)|none=>false
 |.commit=>decide ((σ.t s).end_≤1099511627776)&&decide ((σ.t s).id≤2000)&&decide ((σ.t s).keys.length<1000000)&&okKeys σ (σ.t s)&&decide (σ.tale.length<1000000)
 |.abort _ _=>decide ((σ.t s).end_≤1099511627776)&&decide (1≤(σ.t s).id)&&decide ((σ.t s).id≤2000)&&decide ((σ.t s).keys.length<1000000)&&okKeys σ (σ.t s)&&decide (σ.tale.length<1000000)
 |.turns [] r=>true
 |.turns (x::l) r=>decide (x.at_<σ.words.length)
theorem vl_iff {σ:St} {l:Nat} (h:vl σ l=true):VL σ l:=by
 unfold vl at h;simp only[Bool.and_eq_true,decide_eq_true_eq] at h;exact⟨h.1.1,h.1.2,h.2⟩
theorem vl0_iff {σ:St} {l:Nat} (h:vl0 σ l=true):l=0∨VL σ l:=by
 unfold vl0 at h;simp only[Bool.or_eq_true,beq_iff_eq] at h;exact h.imp id vl_iff
theorem okPool_iff {σ:St} (hn:σ.tags.length=σ.slots) (h:okPool σ=true):PoolOk σ:=by
 unfold okPool at h;simp only[Bool.and_eq_true,decide_eq_true_eq,List.all_eq_true] at h;refine⟨h.1.1.1,fun i hi=>by simpa using h.1.1.2 i hi,fun i hi=>?_,h.2⟩;have:(σ.tags.getD i (0,false))∈σ.tags:=by
  rw[List.getD_eq_getElem?_getD,List.getElem?_eq_getElem (by omega)];exact List.getElem_mem _
 simpa using h.1.2 _ this
theorem okKeys_iff {σ:St} {t:Txn} (h:okKeys σ t=true):KeysOk σ t:=by
 intro key hk;unfold okKeys at h;rw[List.all_eq_true] at h;have:=h key hk
 cases hc:t.cell key with
 |none=>rw[hc] at this;cases this
 |some x=>
  rw[hc] at this;simp only[Bool.and_eq_true] at this;exact⟨x,rfl,vl0_iff this.1,vl0_iff this.2⟩
theorem cel_mem {l:List (Nat×Cel)} {key:Nat} {x:Cel} (h:l.lookup key=some x):(key,x)∈l:=by
 induction l with
 |nil=>cases h
 |cons a l ih=>
  obtain⟨k,y⟩:=a;rw[List.lookup_cons] at h
  by_cases hk:key=k
  · subst hk
    simp at h;subst h;exact List.mem_cons_self
  · rw[beq_false_of_ne hk] at h
    exact List.mem_cons_of_mem _ (ih h)
theorem okCels_iff {σ:St} {t:Txn} (h:okCels σ t=true):CelsOk σ t:=by
 intro key x hx hth;unfold okCels at h;rw[List.all_eq_true] at h;have:=h _ (cel_mem hx);simp only[hth,Bool.not_true,Bool.false_or] at this;exact vl_iff this
theorem small_iff {σ:St} {i:Nat} (h:small σ i=true):σ.word i<18446744073709551616:=by unfold small at h;simpa using h
theorem place_lt (hR:Rep A σ w) {id:Nat} (h:id≤2000):σ.place id<σ.words.length:=by rw[hR.nw];unfold St.place;omega
theorem func_inj {f f':FuncId} {b b' c c':Array Value} (h:Value.func (.func f) b c=.func (.func f') b' c'):f=f'∧b=b'∧c=c':=by
 simp only[Value.func.injEq,Fn.func.injEq] at h;exact h
theorem thn_to {σ:St} {s:Nat} {t:Txn} (ht:σ.txns.getD s none=some t) {c:Cal} (hc:σ.calls.getD s none=some c) {hu:Hunt} {link:Nat} (h:okThn σ s hu link=true):ThnTo σ s hu link:=by
 intro A w hR hmp w1 f cc r g hth;obtain⟨key,at_,thn⟩:=hu;unfold okThn at h;rw[txn_get ht,call_get hc,Bool.and_eq_true,decide_eq_true_eq] at h;obtain⟨hrl,h⟩:=h
 cases thn<;>simp only[Bool.and_eq_true,decide_eq_true_eq] at h
 case get=>
  obtain⟨b0,b1,b2,b3,e,k0,k1,k2,k3⟩:=hth;obtain⟨rfl,-,rfl⟩:=func_inj e;exact k_get r s t ht key link b0 b1 b2 b3 k0 k1 k2 k3 at_ (vl0_iff h) hrl
 case scan k=>
  obtain⟨⟨⟨⟨⟨rfl,h1⟩,h2⟩,h3⟩,h4⟩,h5⟩:=h;obtain⟨b0,b1,b2,b3,b4,e,k0,k1,k2,k3,k4⟩:=hth;obtain⟨rfl,-,rfl⟩:=func_inj e;exact k_scan r s t ht c hc k link at_ b0 b1 b2 b3 b4 k0 k1 k2 k3 k4 (vl0_iff h1) h2 h3 (okCels_iff h4) (by omega) hrl
 case change=>
  obtain⟨b0,b1,b2,b3,e,k0,k1,k2,k3⟩:=hth;obtain⟨rfl,-,rfl⟩:=func_inj e;exact k_change r s t ht c hc key link b0 b1 b2 b3 h k0 k1 k2 k3 at_ hrl
 case judge i l=>
  obtain⟨b0,b1,b2,b3,b4,e,k0,k1,k2,k3,k4⟩:=hth;obtain⟨rfl,-,rfl⟩:=func_inj e;exact k_judge r s t ht i l at_ key link b0 b1 b2 b3 b4 k0 k1 k2 k3 k4 h hrl
theorem bind_has {σ:St} {s tq:Nat} {t:Txn} (ht:σ.txns.getD s none=some t):∃ t',(σ.bind s tq).txns.getD s none=some t':=by
 unfold St.bind;rw[txn_get ht]
 split
 · exact⟨t,ht⟩
 · exact⟨{t with bonds:=t.bonds++[tq]},by show (σ.setT s _).txns.getD s none=_;rw[getT_set (lt_of_txn ht),if_pos rfl]⟩
theorem bind_calls (σ:St) (s tq:Nat):(σ.bind s tq).calls=σ.calls:=by unfold St.bind;split<;>rfl
set_option maxHeartbeats 4000000 in
theorem runsTo {σ:St} {s:Nat} (hs:s<8) {t:Txn} (ht:σ.txns.getD s none=some t) {c:Cal} (hc:σ.calls.getD s none=some c) (k:K) (h:okK σ s k=true):RunsTo σ s k:=by
 intro A w1 f b cc hR hmp hmt hk;unfold okK at h;rw[Bool.and_eq_true,decide_eq_true_eq] at h;obtain⟨hcnt0,h⟩:=h;have hcnt:σ.count<4000000000000000000:=by omega
 have et:=txn_get ht;have ec:=call_get hc
 cases k
 case fin r=>
  obtain⟨b0,b1,b2,e,k0,k1,k2⟩:=hk;obtain⟨rfl,rfl,rfl⟩:=func_inj e;exact k_fin hR s c hc r b0 b1 b2 k0 k1 k2
 case start hu=>
  obtain⟨bh,e,k0⟩:=hk;obtain⟨rfl,rfl,rfl⟩:=func_inj e;simp only[Bool.and_eq_true,decide_eq_true_eq,Bool.or_eq_true,bne_iff_ne] at h;exact k_start hR s hu bh k0 h.1 hcnt fun hz w2 r2 g2=>thn_to (σ:=σ.tick) ht hc (h.2.resolve_left (fun hne=>hne hz)) A w2 r2 hmp
 case visit hu link=>
  obtain⟨b0,b1,e,k0,k1⟩:=hk;obtain⟨rfl,rfl,rfl⟩:=func_inj e;simp only[et,ec,Bool.and_eq_true,decide_eq_true_eq,Bool.or_eq_true,bne_iff_ne,Option.isNone_iff_eq_none,Option.isSome_iff_exists] at h;obtain⟨h1,h2⟩:=h;exact k_visit hR s t ht hu link b0 b1 k0 k1 (vl_iff h1).lo (vl_iff h1).hi (vl_iff h1).u (small_iff h2) hcnt
 case older hu link=>
  obtain⟨b0,b1,e,k0,k1⟩:=hk;obtain⟨rfl,rfl,rfl⟩:=func_inj e;simp only[et,ec,Bool.and_eq_true,decide_eq_true_eq,Bool.or_eq_true,bne_iff_ne,Option.isNone_iff_eq_none,Option.isSome_iff_exists] at h;obtain⟨h1,h2⟩:=h;exact k_older hR s hmp hu link b0 b1 k0 k1 (vl_iff h1) hcnt (fun hz=>thn_to (σ:=σ.tick) ht hc (h2.resolve_left (fun hne=>hne hz)))
 case maker hu link id=>
  obtain⟨b0,b1,b2,e,k0,k1,k2⟩:=hk;obtain⟨rfl,rfl,rfl⟩:=func_inj e;simp only[et,ec,Bool.and_eq_true,decide_eq_true_eq,Bool.or_eq_true,bne_iff_ne,Option.isNone_iff_eq_none,Option.isSome_iff_exists] at h;obtain⟨h1,h2⟩:=h;exact k_maker hR s hu link id b0 b1 b2 k0 k1 k2 (by omega) (place_lt hR h1) (small_iff h2) hcnt
 case ended hu link mb=>
  obtain⟨b0,b1,b2,e,k0,k1,k2⟩:=hk;obtain⟨rfl,rfl,rfl⟩:=func_inj e;simp only[et,ec,Bool.and_eq_true,decide_eq_true_eq,Bool.or_eq_true,bne_iff_ne,Option.isNone_iff_eq_none,Option.isSome_iff_exists] at h;obtain⟨⟨h1,h2⟩,h3⟩:=h;exact k_ended hR s hmp t ht hu link mb b0 b1 b2 k0 k1 k2 (vl_iff h1) (small_iff h2) hcnt (fun hz=>thn_to (σ:=σ.tick) ht hc (h3.resolve_left (fun hne=>hne hz)))
 case ender hu link mb id=>
  obtain⟨b0,b1,b2,b3,e,k0,k1,k2,k3⟩:=hk;obtain⟨rfl,rfl,rfl⟩:=func_inj e;simp only[et,ec,Bool.and_eq_true,decide_eq_true_eq,Bool.or_eq_true,bne_iff_ne,Option.isNone_iff_eq_none,Option.isSome_iff_exists] at h;unfold okBinds at h;simp only[et,Bool.and_eq_true,decide_eq_true_eq] at h;obtain⟨⟨⟨h1,h2⟩,h3,h4⟩,h5⟩:=h;exact k_ender hR s hmp t ht hu link mb id b0 b1 b2 b3 k0 k1 k2 k3 (by omega) (place_lt hR h1) (small_iff h2) h3 h4 hcnt (fun hz=>thn_to (σ:=σ.tick) ht hc (h5.resolve_left (fun hne=>hne hz)))
 case seen hu link mb=>
  obtain⟨b0,b1,b2,e,k0,k1,k2⟩:=hk;obtain⟨rfl,rfl,rfl⟩:=func_inj e;simp only[et,ec,Bool.and_eq_true,decide_eq_true_eq,Bool.or_eq_true,bne_iff_ne,Option.isNone_iff_eq_none,Option.isSome_iff_exists] at h;unfold okBinds at h;simp only[et,Bool.and_eq_true,decide_eq_true_eq] at h;obtain⟨⟨⟨h1,h2⟩,h3,h4⟩,h5⟩:=h;have hthn:ThnTo (if stateOf (σ.word (σ.place mb))=2 then σ.tick.bind s mb else σ.tick) s hu link:=by
   split at h5
   · rename_i hq
     rw[if_pos hq];obtain⟨t',ht'⟩:=bind_has (σ:=σ.tick) (tq:=mb) ht;exact thn_to ht' (by rw[bind_calls];exact hc) h5
   · rename_i hq
     rw[if_neg hq];exact thn_to (σ:=σ.tick) ht hc h5
  exact k_seen hR s hmp t ht hu link mb b0 b1 b2 k0 k1 k2 (by omega) (place_lt hR h1) (small_iff h2) h3 h4 hcnt hthn (fun _ _=>trivial)
 case again en=>
  obtain⟨b0,b1,b2,b3,e,k0,k1,k2,k3⟩:=hk;obtain⟨rfl,rfl,rfl⟩:=func_inj e;simp only[et,ec,Bool.and_eq_true,decide_eq_true_eq,Bool.or_eq_true,bne_iff_ne,Option.isNone_iff_eq_none,Option.isSome_iff_exists] at h
  cases hx:t.cell c.op.key with
  |none=>rw[hx] at h;cases h
  |some x=>
  rw[hx] at h
  by_cases hkd:c.op.kind=4
  · exact k_again_del hR s t ht c hc en x hx (vl_iff h) hkd hcnt b0 b1 b2 b3 k0 k1 k2 k3
  exact k_again_put hR s t ht c hc en x hx (vl_iff h) hkd hcnt b0 b1 b2 b3 k0 k1 k2 k3
 case own link=>
  obtain⟨b0,b1,b2,b3,e,k0,k1,k2,k3⟩:=hk;obtain⟨rfl,rfl,rfl⟩:=func_inj e;simp only[et,ec,Bool.and_eq_true,decide_eq_true_eq,Bool.or_eq_true,bne_iff_ne,Option.isNone_iff_eq_none,Option.isSome_iff_exists] at h;obtain⟨h1,h2⟩:=h;exact k_own hR s t ht link (vl_iff h1) (small_iff h2) hcnt b0 b1 b2 b3 k0 k1 k2 k3
 case ownTxn link x1 id=>
  obtain⟨b0,b1,b2,b3,b4,b5,e,k0,k1,k2,k3,k4,k5⟩:=hk;obtain⟨rfl,rfl,rfl⟩:=func_inj e;simp only[et,ec,Bool.and_eq_true,decide_eq_true_eq,Bool.or_eq_true,bne_iff_ne,Option.isNone_iff_eq_none,Option.isSome_iff_exists] at h;obtain⟨h1,h2⟩:=h;exact k_ownTxn hR s link x1 id (by omega) (place_lt hR h1) (small_iff h2) hcnt b0 b1 b2 b3 b4 b5 k0 k1 k2 k3 k4 k5
 case claim link x1=>
  obtain⟨b0,b1,b2,b3,b4,e,k0,k1,k2,k3,k4⟩:=hk;obtain⟨rfl,rfl,rfl⟩:=func_inj e;simp only[et,ec,Bool.and_eq_true,decide_eq_true_eq,Bool.or_eq_true,bne_iff_ne,Option.isNone_iff_eq_none,Option.isSome_iff_exists] at h;obtain⟨⟨⟨⟨⟨h1,h2⟩,h3⟩,h4⟩,h5⟩,h6⟩:=h;exact k_claim hR s t ht c hc hmp link x1 (vl_iff h1) h2 h3 h4 h5 (okPool_iff hR.nt h6) hcnt b0 b1 b2 b3 b4 k0 k1 k2 k3 k4
 case fresh link=>
  obtain⟨b0,b1,b2,b3,e,k0,k1,k2,k3⟩:=hk;obtain⟨rfl,rfl,rfl⟩:=func_inj e;simp only[et,ec,Bool.and_eq_true,decide_eq_true_eq,Bool.or_eq_true,bne_iff_ne,Option.isNone_iff_eq_none,Option.isSome_iff_exists] at h;obtain⟨⟨h1,h2⟩,h3⟩:=h;exact k_fresh hR s c hc link (vl0_iff h1) h2 hmp (okPool_iff hR.nt h3) hcnt b0 b1 b2 b3 k0 k1 k2 k3
 case next link hd at_=>
  obtain⟨b0,b1,b2,b3,b4,b5,e,k0,k1,k2,k3,k4,k5⟩:=hk;obtain⟨rfl,rfl,rfl⟩:=func_inj e;simp only[et,ec,Bool.and_eq_true,decide_eq_true_eq,Bool.or_eq_true,bne_iff_ne,Option.isNone_iff_eq_none,Option.isSome_iff_exists] at h;obtain⟨⟨h1,h2⟩,h3⟩:=h;exact k_next hR s c hc link hd at_ (vl0_iff h1) (vl_iff h2) hmp (okPool_iff hR.nt h3) hcnt b0 b1 b2 b3 b4 b5 k0 k1 k2 k3 k4 k5
 case free link hd at_=>
  obtain⟨b0,b1,b2,b3,b4,b5,e,k0,k1,k2,k3,k4,k5⟩:=hk;obtain⟨rfl,rfl,rfl⟩:=func_inj e;simp only[et,ec,Bool.and_eq_true,decide_eq_true_eq,Bool.or_eq_true,bne_iff_ne,Option.isNone_iff_eq_none,Option.isSome_iff_exists] at h;obtain⟨⟨⟨h1,h2⟩,h3⟩,h4⟩:=h;exact k_free hR s t ht link hd at_ (vl0_iff h1) (vl_iff h2) (okPool_iff hR.nt h3) (small_iff h4) hcnt b0 b1 b2 b3 b4 b5 k0 k1 k2 k3 k4 k5
 case freeTxn link hd at_ id=>
  obtain⟨b0,b1,b2,b3,b4,b5,e,k0,k1,k2,k3,k4,k5⟩:=hk;obtain⟨rfl,rfl,rfl⟩:=func_inj e;simp only[et,ec,Bool.and_eq_true,decide_eq_true_eq,Bool.or_eq_true,bne_iff_ne,Option.isNone_iff_eq_none,Option.isSome_iff_exists] at h;obtain⟨⟨⟨h1,h2⟩,h3⟩,h4⟩:=h;exact k_freeTxn hR s t ht link hd at_ id (vl0_iff h1) (by omega) (place_lt hR h2) (small_iff h3) (okPool_iff hR.nt h4) hcnt b0 b1 b2 b3 b4 b5 k0 k1 k2 k3 k4 k5
 case slotB x link hd=>
  obtain⟨b0,b1,b2,b3,b4,b5,e,k0,k1,k2,k3,k4,k5⟩:=hk;obtain⟨rfl,rfl,rfl⟩:=func_inj e;simp only[et,ec,Bool.and_eq_true,decide_eq_true_eq,Bool.or_eq_true,bne_iff_ne,Option.isNone_iff_eq_none,Option.isSome_iff_exists] at h;obtain⟨⟨h1,h2⟩,h3⟩:=h;exact k_slotB hR s t ht b0 b1 b2 b3 b4 b5 x link hd k0 k1 k2 k3 k4 k5 hcnt (vl_iff h1) h2 h3
 case slotE x link hd=>
  obtain⟨b0,b1,b2,b3,b4,b5,e,k0,k1,k2,k3,k4,k5⟩:=hk;obtain⟨rfl,rfl,rfl⟩:=func_inj e;exact k_slotE hR s t ht x link hd hcnt (vl_iff h) b0 b1 b2 b3 b4 b5 k0 k1 k2 k3 k4 k5
 case push link hd=>
  obtain⟨b0,b1,b2,b3,b4,e,k0,k1,k2,k3,k4⟩:=hk;obtain⟨rfl,rfl,rfl⟩:=func_inj e;exact k_push hR s t ht b0 b1 b2 b3 b4 link hd k0 k1 k2 k3 k4 hcnt (vl_iff h)
 case pushC link hd=>
  obtain⟨b0,b1,b2,b3,b4,e,k0,k1,k2,k3,k4⟩:=hk;obtain⟨rfl,rfl,rfl⟩:=func_inj e;simp only[et,ec,Bool.and_eq_true,decide_eq_true_eq,Bool.or_eq_true,bne_iff_ne,Option.isNone_iff_eq_none,Option.isSome_iff_exists] at h;obtain⟨⟨h1,h2⟩,h3⟩:=h;exact k_pushC hR s t ht c hc link hd h1 h2 h3 hcnt b0 b1 b2 b3 b4 k0 k1 k2 k3 k4
 case over link=>
  obtain⟨b0,b1,b2,b3,b4,e,k0,k1,k2,k3,k4⟩:=hk;obtain⟨rfl,rfl,rfl⟩:=func_inj e;simp only[et,ec,Bool.and_eq_true,decide_eq_true_eq,Bool.or_eq_true,bne_iff_ne,Option.isNone_iff_eq_none,Option.isSome_iff_exists] at h;exact k_over hR s c hc link h hcnt b0 b1 b2 b3 b4 k0 k1 k2 k3 k4
 case overN link hd=>
  obtain⟨b0,b1,b2,b3,b4,b5,e,k0,k1,k2,k3,k4,k5⟩:=hk;obtain⟨rfl,rfl,rfl⟩:=func_inj e;exact k_overN hR s t ht b0 b1 b2 b3 b4 b5 link hd k0 k1 k2 k3 k4 k5 hcnt (vl_iff h)
 case overC link hd=>
  obtain⟨b0,b1,b2,b3,b4,b5,e,k0,k1,k2,k3,k4,k5⟩:=hk;obtain⟨rfl,rfl,rfl⟩:=func_inj e;simp only[et,ec,Bool.and_eq_true,decide_eq_true_eq,Bool.or_eq_true,bne_iff_ne,Option.isNone_iff_eq_none,Option.isSome_iff_exists] at h;obtain⟨h1,x,hx⟩:=h;exact k_overC hR s t ht c hc link hd h1 x hx hcnt b0 b1 b2 b3 b4 b5 k0 k1 k2 k3 k4 k5
 case draw=>
  obtain⟨b0,b1,b2,e,k0,k1,k2⟩:=hk;obtain⟨rfl,rfl,rfl⟩:=func_inj e;simp only[et,ec,Bool.and_eq_true,decide_eq_true_eq,Bool.or_eq_true,bne_iff_ne,Option.isNone_iff_eq_none,Option.isSome_iff_exists] at h;exact k_draw hR s h hcnt b0 b1 b2 k0 k1 k2
 case drawH x now=>
  obtain⟨b0,b1,b2,e,k0,k1,k2⟩:=hk;obtain⟨rfl,rfl,rfl⟩:=func_inj e;simp only[et,ec,Bool.and_eq_true,decide_eq_true_eq,Bool.or_eq_true,bne_iff_ne,Option.isNone_iff_eq_none,Option.isSome_iff_exists] at h;obtain⟨h1,h2⟩:=h;exact k_drawH hR s x now h1 h2 hcnt b0 b1 b2 k0 k1 k2
 case turn x now=>
  obtain⟨b0,b1,b2,b3,b4,e,k0,k1,k2,k3,k4⟩:=hk;obtain⟨rfl,rfl,rfl⟩:=func_inj e;simp only[et,ec,Bool.and_eq_true,decide_eq_true_eq,Bool.or_eq_true,bne_iff_ne,Option.isNone_iff_eq_none,Option.isSome_iff_exists] at h;obtain⟨⟨h1,h2⟩,h3⟩:=h;exact k_turn hR s t ht x now h1 h2 h3 hcnt b0 b1 b2 b3 b4 k0 k1 k2 k3 k4
 case helpJ=>
  obtain⟨b0,b1,b2,e,k0,k1,k2⟩:=hk;obtain⟨rfl,rfl,rfl⟩:=func_inj e;simp only[et,ec,Bool.and_eq_true,decide_eq_true_eq,Bool.or_eq_true,bne_iff_ne,Option.isNone_iff_eq_none,Option.isSome_iff_exists] at h;obtain⟨⟨h1,h2⟩,h3⟩:=h;exact k_helpJ hR s t ht h1 h2 h3 hcnt b0 b1 b2 k0 k1 k2
 case wait i=>
  obtain⟨b0,b1,b2,b3,b4,e,k0,k1,k2,k3,k4⟩:=hk;obtain⟨rfl,rfl,rfl⟩:=func_inj e;simp only[et,ec,Bool.and_eq_true,decide_eq_true_eq,Bool.or_eq_true,bne_iff_ne,Option.isNone_iff_eq_none,Option.isSome_iff_exists] at h
  cases hb:t.bonds[i]? with
  |none=>rw[hb] at h;cases h
  |some bd=>
  rw[hb] at h;simp only[Bool.and_eq_true,decide_eq_true_eq] at h;obtain⟨⟨h1,h2⟩,h3⟩:=h;exact k_wait hR s t ht c hc i bd hb h3 (by omega) (place_lt hR h1) (small_iff h2) hcnt b0 b1 b2 b3 b4 k0 k1 k2 k3 k4
 case commit=>
  obtain⟨b0,b1,b2,e,k0,k1,k2⟩:=hk;obtain⟨rfl,rfl,rfl⟩:=func_inj e;simp only[et,ec,Bool.and_eq_true,decide_eq_true_eq,Bool.or_eq_true,bne_iff_ne,Option.isNone_iff_eq_none,Option.isSome_iff_exists] at h;obtain⟨⟨⟨⟨h1,h2⟩,h3⟩,h4⟩,h5⟩:=h;exact k_commit hR s t ht hmt h1 h2 h3 (okKeys_iff h4) h5 hcnt b0 b1 b2 k0 k1 k2
 case abort er re=>
  obtain⟨b0,b1,b2,b3,b4,e,k0,k1,k2,k3,k4⟩:=hk;obtain⟨rfl,rfl,rfl⟩:=func_inj e;simp only[et,ec,Bool.and_eq_true,decide_eq_true_eq,Bool.or_eq_true,bne_iff_ne,Option.isNone_iff_eq_none,Option.isSome_iff_exists] at h;obtain⟨⟨⟨⟨⟨h1,h2⟩,h3⟩,h4⟩,h5⟩,h6⟩:=h;exact k_abort hR s t ht hmt er re h1 h2 h3 h4 (okKeys_iff h5) h6 hcnt b0 b1 b2 b3 b4 k0 k1 k2 k3 k4
 case turns l r=>
  cases l with
  |nil=>
   obtain⟨b0,b1,b2,b3,e,k0,k1,k2,k3⟩:=hk;obtain⟨rfl,rfl,rfl⟩:=func_inj e;exact k_turnsE hR s t ht c hc r hs hcnt b0 b1 b2 b3 k0 k1 k2 k3
  |cons x l=>
   obtain⟨b0,b1,b2,b3,b4,e,k0,k1,k2,k3,k4⟩:=hk;obtain⟨rfl,rfl,rfl⟩:=func_inj e;simp only[decide_eq_true_eq] at h;exact k_turnsC hR s c hc x l r h hcnt b0 b1 b2 b3 b4 k0 k1 k2 k3 k4
def okFirst (σ:St) (s:Nat):Bool:=match (σ.c s).op.kind with
 |6=>true
 |7=>true
 |1=>match (σ.t s).cell (σ.c s).op.key with|none=>true|some x=>!x.there||vl σ x.own
 |5=>decide ((σ.c s).op.key≤63)&&decide ((σ.c s).op.hi≤63)&&okCels σ (σ.t s)&&decide ((σ.c s).r.pairs.length<90000)
 |2=>okWrite σ s
 |3=>okWrite σ s
 |4=>okWrite σ s
 |_=>false
 where okWrite (σ:St) (s:Nat):Bool:=match (σ.t s).cell (σ.c s).op.key with|none=>true|some _=>decide (1≤(σ.t s).id)&&decide ((σ.t s).id≤65535)&&okPool σ
theorem firstTo {σ:St} {s:Nat} {t:Txn} (ht:σ.txns.getD s none=some t) {c:Cal} (hc:σ.calls.getD s none=some c) (h:okFirst σ s=true):FirstTo σ s:=by
 intro A w hR hmp;have et:=txn_get ht;have ec:=call_get hc;unfold okFirst okFirst.okWrite at h;rw[et,ec] at h;have hret:∀ r,∀ e w',Tells A w s r e w'→∃ v,e=.returned v:=fun r e w' ⟨_,v,hv,_⟩=>⟨v,hv⟩
 refine first_tells hR s c hc _ (fun hk=>?_) (fun hk=>?_) (fun hk=>?_) (fun hk=>?_) (fun k1 k5 k6 k7=>?_) (hret _)
 · rw[hk] at h
   simp only at h
   cases hx:t.cell c.op.key with
   |none=>
    have e:σ.first s=(σ,.start ⟨c.op.key,t.begin_,.get⟩):=by unfold St.first;rw[ec,et];simp only[hk,hx]
    rw[e];exact get_none hR s t ht c hc hx
   |some x=>
    rw[hx] at h;have e:σ.first s=(σ,if x.there then .fin {value:=σ.valueOf x.own} else .fin {e:=11}):=by unfold St.first;rw[ec,et];simp only[hk,hx]
    rw[e]
    cases hth:x.there with
    |true=>
     simp only[hth,Bool.not_true,Bool.false_or] at h;rw[if_pos rfl];exact get_there hR s t ht c hc x hx hth (vl_iff h)
    |false=>
     rw[if_neg (by decide)];exact get_gone hR s t ht c hc x hx hth
 · rw[hk] at h
   simp only[Bool.and_eq_true,decide_eq_true_eq] at h;obtain⟨⟨⟨h1,h2⟩,h3⟩,h4⟩:=h;have e:σ.first s=σ.scan s c.op.key:=by unfold St.first;rw[ec];simp only[hk]
   rw[e];exact scan_any hR s t ht c hc c.op.key (by omega) h2 (okCels_iff h3) (by omega)
 · have e:σ.first s=(σ,.draw):=by unfold St.first;rw[ec];simp only[hk]
   rw[e];exact draw_any hR s
 · have e:σ.first s=(σ,.abort 0 1):=by unfold St.first;rw[ec];simp only[hk]
   rw[e];exact abort_any hR s 0 1
 · have hx:(match t.cell c.op.key with|none=>true|some _=>decide (1≤t.id)&&decide (t.id≤65535)&&okPool σ)=true∧(c.op.kind=2∨c.op.kind=3∨c.op.kind=4):=by
    split at h
    · omega
    · omega
    · omega
    · omega
    · rename_i hk;exact⟨h,.inl hk⟩
    · rename_i hk;exact⟨h,.inr (.inl hk)⟩
    · rename_i hk;exact⟨h,.inr (.inr hk)⟩
    · cases h
   obtain⟨hx1,hkk⟩:=hx
   cases hx:t.cell c.op.key with
   |none=>
    have e:σ.first s=(σ,.start ⟨c.op.key,t.begin_,.change⟩):=by
     rcases hkk with hk|hk|hk<;>(unfold St.first;rw[ec,et];simp only[hk,hx])
    rw[e];exact change_none hR s t ht c hc hx
   |some x=>
    rw[hx] at hx1;simp only[Bool.and_eq_true,decide_eq_true_eq] at hx1;have e:σ.first s=againK σ s t x c.op.kind:=by
     rcases hkk with hk|hk|hk<;>(unfold St.first againK;rw[ec,et];simp only[hk,hx])
    rw[e];exact change_some hR s t ht c hc hmp x hx hx1.1.1 hx1.1.2 (okPool_iff hR.nt hx1.2)
def okOthers (σ σ2:St) (s:Nat):Bool:=decide (σ.calls.length=8)&&decide (σ2.calls.length=8)&&(List.range 8).all fun q=>q==s||decide (σ2.calls.getD q none=σ.calls.getD q none)
theorem okOthers_iff {σ σ2:St} {s:Nat} (h:okOthers σ σ2 s=true):∀ q,q≠s→σ2.calls.getD q none=σ.calls.getD q none:=by
 intro q hq;unfold okOthers at h;simp only[Bool.and_eq_true,decide_eq_true_eq,List.all_eq_true,List.mem_range,Bool.or_eq_true,beq_iff_eq] at h
 by_cases h8:q<8
 · exact (h.2 q h8).resolve_left hq
 · simp[List.getD_eq_getElem?_getD,List.getElem?_eq_none (show σ2.calls.length≤q by omega),List.getElem?_eq_none (show σ.calls.length≤q by omega)]
def afterStep (σ:St) (s:Nat) (σ2:St) (ok:Option K) (c2:Cal):Option (St×Nat×Res):=
 match ok with
 |some k'=>if c2.over=false then some ({σ2.setC s {c2 with k:=some k'} with looks:=σ2.looks+(σ2.count - σ.count)},if c2.waits then 2 else 1,{}) else none
 |none=>
  if c2.waits=false∧c2.over=true∧c2.r.pairs.length≤1000000 then
   if c2.r.over=0 then
    match σ2.txns.getD s none with
    |some t2=>if σ2.tale.length<1000000 then some (({σ2.setC s {c2 with k:=none} with looks:=σ2.looks+(σ2.count - σ.count),calls:=(σ2.setC s {c2 with k:=none}).calls.set s none}:St).event {kind:=2,t:=t2.id,op:=c2.op,res:=c2.r},3,c2.r) else none
    |none=>none
   else if c2.r.pairs=[] then some ({σ2.setC s {c2 with k:=none} with looks:=σ2.looks+(σ2.count - σ.count),calls:=(σ2.setC s {c2 with k:=none}).calls.set s none,txns:=σ2.txns.set s none},3,c2.r) else none
  else none
def oneStep (σ:St) (s:Nat):Option (St×Nat×Res):=
 match σ.txns.getD s none,σ.calls.getD s none with
 |some t,some c=>
  match c.k with
  |some k=>
   match (σ.setC s {c with waits:=false}).run s k with
   |(σ2,ok)=>
    match σ2.calls.getD s none with
    |some c2=>
     if okK (σ.setC s {c with waits:=false}) s k=true∧okOthers σ σ2 s=true∧σ.count≤σ2.count∧σ2.count - σ.count<1000000∧σ2.looks<1000000000000000000∧σ.count<3000000000000000000 then afterStep σ s σ2 ok c2 else none
    |none=>none
  |none=>none
 |_,_=>none
theorem step_calls (hL:Live A σ w) {s:Nat} (hs:s<8) {σ':St} {kd:Nat} {r:Res} (h:oneStep σ s=some (σ',kd,r)):
 Calls Tryz.prog 38 #[.pointer (some ⟨A.be,0,none⟩),zi (s:Int)] w (Stepped A w σ' (kd:Int) r):=by
 unfold oneStep at h
 split at h
 · rename_i t c ht hc
   split at h
   · rename_i k hk
     split at h
     rename_i σ2 ok hrun
     split at h
     · rename_i c2 hc2
       split at h
       · rename_i hh
         obtain⟨h1,h2,h3,h4,h5,h6⟩:=hh;have hc1:(σ.setC s {c with waits:=false}).calls.getD s none=some {c with waits:=false}:=by rw[getC_set (lt_of_call hc),if_pos rfl]
         have hRT:=runsTo hs (σ:=σ.setC s {c with waits:=false}) (t:=t) ht hc1 k h1;have hdl:σ2.count=σ.count+(σ2.count - σ.count):=by omega
         have hcq:=okOthers_iff h2;unfold afterStep at h
         cases ok with
         |some k'=>
          simp only at h
          split at h
          · rename_i hov
            simp only[Option.some.injEq,Prod.mk.injEq] at h;obtain⟨rfl,rfl,rfl⟩:=h;have:=step_go hL s hs t ht c hc k hk h6 σ2 _ hrun hRT c2 hc2 _ hdl h4 h5 hcq k' rfl hov
            cases hw:c2.waits<;>(rw[hw] at this;simpa [hw] using this)
          · cases h
         |none=>
          simp only at h
          split at h
          · rename_i hh
            obtain⟨hw,hov,hpr⟩:=hh
            split at h
            · rename_i hro
              split at h
              · rename_i t2 ht2
                split at h
                · rename_i htl
                  simp only[Option.some.injEq,Prod.mk.injEq] at h;obtain⟨rfl,rfl,rfl⟩:=h;exact step_pairs hL s hs t ht c hc k hk h6 σ2 _ hrun hRT c2 hc2 _ hdl h4 h5 hcq t2 ht2 htl rfl hw hov hpr hro
                · cases h
              · cases h
            · rename_i hro
              split at h
              · rename_i hpe
                simp only[Option.some.injEq,Prod.mk.injEq] at h;obtain⟨rfl,rfl,rfl⟩:=h;exact step_over hL s hs t ht c hc k hk h6 σ2 _ hrun hRT c2 hc2 _ hdl h4 h5 hcq rfl hw hov hpe hro
              · cases h
          · cases h
       · cases h
     · cases h
   · cases h
 · cases h
def capTo (n:Int):Int:=min (max n 0) 1000
def boundOf (n c:Int):Int:=wrap64 (wrap64 (400*(capTo n+1)*(capTo c+64))*(capTo n+4))
theorem capTo_low {n:Int} (h:n<0):capTo n=0:=by unfold capTo;omega
theorem capTo_mid {n:Int} (h:0≤n) (h2:(if n<0 then 0 else n)≤1000):capTo n=n:=by rw[if_neg (by omega)] at h2;unfold capTo;omega
theorem capTo_high {n:Int} (h:0≤n) (h2:1000<(if n<0 then 0 else n)):capTo n=1000:=by rw[if_neg (by omega)] at h2;unfold capTo;omega
theorem bound_any (n c:Int) (w:World):Calls Tryz.prog 33 #[zi n,zi c] w fun e w'=>e=.returned (zi (boundOf n c))∧w=w':=by
 go_enter Tryz.func33,Tryz.ntmps33;go_wp2
 all_goals (go_ret;refine⟨?_,rfl⟩;unfold boundOf;first|(rw[capTo_low (n:=n) (by assumption)])|(rw[capTo_mid (n:=n) (by assumption) (by assumption)])|(rw[capTo_high (n:=n) (by assumption) (by assumption)]))
 all_goals (first|(rw[capTo_low (n:=c) (by assumption)];rfl)|(rw[capTo_mid (n:=c) (by assumption) (by assumption)];rfl)|(rw[capTo_high (n:=c) (by assumption) (by assumption)];rfl))
theorem bound_run (w:World):Calls Tryz.prog 33 #[zi 8,zi 256] w fun e w'=>e=.returned (zi 13824000)∧w=w':=by
 have h:=bound_any 8 256 w;rw[show boundOf 8 256=13824000 by decide +kernel] at h;exact h
theorem Live.world {A:Book} {σ:St} {w w':World} (hL:Live A σ w) (r:Rep A σ w') (g:Grow A.L w A.L w'):Live A σ w':=
 ⟨r,hL.mp,hL.mt,fun s h c hc=>let ⟨e1,k,e2,e3⟩:=hL.call s h c hc;⟨e1,k,e2,e3.grow g⟩,hL.idle,hL.sx.keep rfl ⟨rfl,rfl⟩ g⟩
theorem Live.alloc (hL:Live A σ w) (o:Obj):Live A σ (w.alloc o):=hL.world (hL.rep.alloc _) (Grow.alloc _ _ _)
theorem Live.below {A:Book} {σ:St} {w w':World} (hL:Live A σ w) (h:Below w.heap.size w w'):Live A σ w':=hL.world (hL.rep.below h) (Grow.below h)
theorem Live.newTmp (hL:Live A σ w) (o:Obj):Live (A.tmp w.heap.size) σ (w.alloc o):=
 let ⟨r,g,_,_⟩:=hL.rep.newTmp o
 ⟨r,hL.mp,hL.mt,fun s h c hc=>let ⟨e1,k,e2,e3⟩:=hL.call s h c hc;⟨e1,k,e2,(show KRep (kp A σ s) (A.tmp w.heap.size).L (w.alloc o) (A.vnext s) k from e3.grow g)⟩,hL.idle,hL.sx.keep rfl ⟨rfl,rfl⟩ g⟩
theorem Live.but {A:Book} {σ:St} {w w':World} {b:Nat} (hL:Live A σ w) (hl:A.L b=some .tmp) (h:But b w w'):Live A σ w':=
 ⟨hL.rep.but hl h,hL.mp,hL.mt,fun s hs c hc=>let ⟨e1,k,e2,e3⟩:=hL.call s hs c hc;⟨e1,k,e2,e3.soft (h.soft hl)⟩,hL.idle,hL.sx.soft rfl (h.soft hl)⟩
def runDo:Nat→St→Nat→Option (St×Res×Nat)
 |0,_,_=>none
 |n+1,σ,s=>match oneStep σ s with
  |some (σ',kd,r)=>if kd=3 then some (σ',r,0) else if kd=2 then some (σ',{},18) else if kd=1 then runDo n σ' s else none
  |none=>none
def IssueTo (σ:St) (s:Nat) (o:En.Op) (σ1:St) (err:Nat):Prop:=∀ A w,Live A σ w→Calls Tryz.prog 35 #[.pointer (some ⟨A.be,0,none⟩),zi (s:Int),.agg #[zi (o.kind:Int),zi (o.key:Int),zi (o.hi:Int),zi (o.value:Int)]] w (Issued A w σ1 (err:Int))
def Done (A:Book) (w:World) (σ':St) (r:Res) (err:Nat):Ending→World→Prop:=fun e w'=>∃ A' vp,e=.returned (.tuple #[.agg #[zi (r.e:Int),zi (r.value:Int),vp,zi (r.over:Int),zi (r.reason:Int)],zi (err:Int)])∧FRow A'.L w' 2 vp (pairCs r.pairs)∧Live A' σ' w'∧Grow A.L w A'.L w'∧A'.be=A.be
theorem frow_form {L:Lab} {w:World} {size:Nat} {v:Value} {xs:List Value} (h:FRow L w size v xs):∃ a n cap,v=.slice a n cap:=let ⟨a,n,cap,e,_⟩:=h;⟨a,n,cap,e⟩
theorem do_any (hL:Live A σ w) (s:Nat) (hs:s<8) (o:En.Op) (σ1:St) (HI:IssueTo σ s o σ1 0) (F:Nat) (hF:F≤13824000) (σ2:St) (r:Res) (err:Nat) (hrun:runDo F σ1 s=some (σ2,r,err)):
 Calls Tryz.prog 25 #[.pointer (some ⟨A.be,0,none⟩),zi (s:Int),.agg #[zi (o.kind:Int),zi (o.key:Int),zi (o.hi:Int),zi (o.value:Int)]] w (Done A w σ2 r err):=by
 obtain⟨w0,hw0⟩:∃ w0,w0=w.alloc (.cells #[zi (o.kind:Int),zi (o.key:Int),zi (o.hi:Int),zi (o.value:Int)] 29):=⟨_,rfl⟩
 have hL0:Live A σ w0:=by rw[hw0];exact hL.alloc _
 have g0:Grow A.L w A.L w0:=by rw[hw0];exact Grow.alloc _ _ _
 have hz:w0.heap.size=w.heap.size+1:=by rw[hw0];simp
 have hL1:=hL0.newTmp (.cells #[zi 0,zi 0,.slice none 0 0,zi 0,zi 0] 49);obtain⟨_,g1,t1,t2⟩:=hL0.rep.newTmp (.cells #[zi 0,zi 0,.slice none 0 0,zi 0,zi 0] 49);have hI:=HI _ _ hL1;have c0:(w0.alloc (.cells #[zi 0,zi 0,.slice none 0 0,zi 0,zi 0] 49)).heap[w.heap.size]? =some (.cells #[zi (o.kind:Int),zi (o.key:Int),zi (o.hi:Int),zi (o.value:Int)] 29):=by
  have f:=(fix_next (L:=A.L) hL.rep.mem.fresh (.cells #[zi (o.kind:Int),zi (o.key:Int),zi (o.hi:Int),zi (o.value:Int)] 29) rfl)
  rw[←hw0] at f;exact (f.grow g1).2
 have HW:=zH (zA (g0.trans g1) (zA t1 t2));have HII:=zH hI;have HR:=zH (zA hrun (zA hF hs));subst hw0;rw[hz] at*;clear HI hI hrun hF hs hL0 hL1 g0 g1 t1 t2 hz hL;go_enter Tryz.func25,Tryz.ntmps25;go_wp2_with (first|(go_at_call 35;refine HII.out.mono ?_;rintro e w1 ⟨A1,rfl,q1,q2,q3⟩;have H1:=zH (zA q1 (zA q2 q3));clear q1 q2 q3)|(go_at_call 33;refine (bound_run _).mono ?_;rintro e w' ⟨rfl,rfl⟩))
 go_loopw [20] (fun i wr=>∃ (j n:Nat) (σj:St) (A':Book),i=zi (j:Int)∧runDo n σj s=some (σ2,r,err)∧j+n≤13824000∧Live A' σj wr∧Grow A.L w A'.L wr∧A'.be=A.be∧A'.L (w.heap.size+1)=some .tmp∧wr.heap[w.heap.size+1]? =some (.cells #[zi 0,zi 0,.slice none 0 0,zi 0,zi 0] 49)) (fun i _=>13824000 - (intOf i).toNat)
 case atStart=>
  obtain⟨q1,q2,q3⟩:=H1.out;obtain⟨gw,t1,t2⟩:=HW.out;obtain⟨t3,t4⟩:=tmp_grow ⟨t1,t2⟩ q2;exact⟨0,F,σ1,A1,rfl,HR.out.1,by have:=HR.out.2.1;omega,q1,gw.trans q2,q3,t3,t4⟩
 case round=>
  obtain⟨j,n,σj,A',rfl,hrun,hj,hL,g,eb,t1,t2⟩:=hrel
  cases n with
  |zero=>cases hrun
  |succ n=>
  unfold runDo at hrun
  split at hrun
  · rename_i σ' kd r' hst
    have hcs:=step_calls hL HR.out.2.2 hst;rw[eb] at hcs;have b1:(j:Int)<13824000:=by omega
    have n1:IntKind.i64.wrap ((j:Int)+1)=(j:Int)+1:=by rw[IntKind.wrap_i64];omega
    have HQ:=zH (zA hrun (zA hj (zA g (zA eb (zA t1 t2)))));clear hrun hj hL g eb t1 t2 hst
    by_cases hk3:kd=3
    · subst hk3
      have HC:=zH hcs;clear hcs;go_wp2_with (first|(go_at_call 38;refine HC.out.mono ?_;rintro e w2 ⟨A2,vp,rfl,q1,q2,q3,q4⟩;obtain⟨va,vn,vc,rfl⟩:=frow_form q1;obtain⟨_,_,gq,eq,t1,t2⟩:=HQ.out;obtain⟨t3,t4⟩:=tmp_grow ⟨t1,t2⟩ q3;have HTH:=zH (there_of (tmp_grow ⟨t3,t4⟩ (Grow.alloc A2.L w2 (.cells #[zi 3,zi (r'.e:Int),zi (r'.value:Int),.slice va vn vc,zi (r'.over:Int),zi (r'.reason:Int)] 127))).2);have H2:=zH (zA q1 (zA q2 (zA (gq.trans q3) (zA (q4.trans eq) (zA t3 t4)))));clear q1 q2 q3 q4 gq eq t1 t2 t3 t4)|(refine wpList_store_mid rfl 49 (.tmp 6) (.tmp 33) rfl (w.heap.size+1) 0 #[zi (r'.e:Int),zi (r'.value:Int),.slice va vn vc,zi (r'.over:Int),zi (r'.reason:Int)] rfl rfl HTH.out (by kernel_rfl) (by simp[Value.oneCell']) ?_;generalize hws:World.setCells _ _ _ _=ws));obtain⟨hrun,_⟩:=HQ.out;obtain⟨q1,q2,gq,eq,t3,t4⟩:=H2.out;have ga:=Grow.alloc A2.L w2 (.cells #[zi 3,zi (r'.e:Int),zi (r'.value:Int),.slice va vn vc,zi (r'.over:Int),zi (r'.reason:Int)] 127);obtain⟨t5,t6⟩:=tmp_grow ⟨t3,t4⟩ ga;have hL3:=q2.alloc (.cells #[zi 3,zi (r'.e:Int),zi (r'.value:Int),.slice va vn vc,zi (r'.over:Int),zi (r'.reason:Int)] 127);have gg:=gq.trans ga;have q1':=q1.grow ga;generalize w2.alloc _=w3 at*;have hbut:=But.setCells (w.heap.size+1) [zi (r'.e:Int),zi (r'.value:Int),.slice va vn vc,zi (r'.over:Int),zi (r'.reason:Int)] 0 w3;have hfin:=heap_setCells5 t6 (zi (r'.e:Int)) (zi (r'.value:Int)) (.slice va vn vc) (zi (r'.over:Int)) (zi (r'.reason:Int));rw[show w3.setCells (w.heap.size+1) 0 [zi (r'.e:Int),zi (r'.value:Int),.slice va vn vc,zi (r'.over:Int),zi (r'.reason:Int)]=ws from hws] at hbut hfin;refine bodyPost_ret (results_cell_tmp_row rfl _ _ (w.heap.size+1) 49 #[zi (r'.e:Int),zi (r'.value:Int),.slice va vn vc,zi (r'.over:Int),zi (r'.reason:Int)] _ _ rfl hfin Tryz.underlying49 rfl (by kernel_rfl)) rfl ?_;replace hrun:some (σ',r',0)=some (σ2,r,err):=hrun;obtain⟨rfl,rfl,rfl⟩:σ'=σ2∧r'=r∧0=err:=by simpa using hrun
      exact⟨A2,(.slice va vn vc),rfl,q1'.but t5 hbut,hL3.but t5 hbut,gg.but (Nat.le_succ _) hbut,eq⟩
    by_cases hk2:kd=2
    · subst hk2
      have HC:=zH hcs;clear hcs;go_wp2_with (first|(go_at_call 38;refine HC.out.mono ?_;rintro e w2 ⟨A2,vp,rfl,q1,q2,q3,q4⟩;obtain⟨va,vn,vc,rfl⟩:=frow_form q1;obtain⟨_,_,gq,eq,t1,t2⟩:=HQ.out;obtain⟨t3,t4⟩:=tmp_grow ⟨t1,t2⟩ q3;have HTH:=zH (there_of (tmp_grow ⟨t3,t4⟩ (Grow.alloc A2.L w2 (.cells #[zi 2,zi (r'.e:Int),zi (r'.value:Int),.slice va vn vc,zi (r'.over:Int),zi (r'.reason:Int)] 127))).2);have H2:=zH (zA q1 (zA q2 (zA (gq.trans q3) (zA (q4.trans eq) (zA t3 t4)))));clear q1 q2 q3 q4 gq eq t1 t2 t3 t4)|(refine wpList_store_mid rfl 49 (.tmp 6) (.tmp 36) rfl (w.heap.size+1) 0 #[zi 0,zi 0,.slice none 0 0,zi 0,zi 0] rfl rfl HTH.out (by kernel_rfl) (by simp[Value.oneCell']) ?_;generalize hws:World.setCells _ _ _ _=ws));obtain⟨hrun,_⟩:=HQ.out;obtain⟨q1,q2,gq,eq,t3,t4⟩:=H2.out;have ga:=Grow.alloc A2.L w2 (.cells #[zi 2,zi (r'.e:Int),zi (r'.value:Int),.slice va vn vc,zi (r'.over:Int),zi (r'.reason:Int)] 127);obtain⟨t5,t6⟩:=tmp_grow ⟨t3,t4⟩ ga;have hL3:=q2.alloc (.cells #[zi 2,zi (r'.e:Int),zi (r'.value:Int),.slice va vn vc,zi (r'.over:Int),zi (r'.reason:Int)] 127);have gg:=gq.trans ga;have q1':=q1.grow ga;generalize w2.alloc _=w3 at*;have hbut:=But.setCells (w.heap.size+1) [zi 0,zi 0,.slice none 0 0,zi 0,zi 0] 0 w3;have hfin:=heap_setCells5 t6 (zi 0) (zi 0) (.slice none 0 0) (zi 0) (zi 0);rw[show w3.setCells (w.heap.size+1) 0 [zi 0,zi 0,.slice none 0 0,zi 0,zi 0]=ws from hws] at hbut hfin;refine bodyPost_ret (results_cell_tmp_row rfl _ _ (w.heap.size+1) 49 #[zi 0,zi 0,.slice none 0 0,zi 0,zi 0] _ _ rfl hfin Tryz.underlying49 rfl (by kernel_rfl)) rfl ?_;replace hrun:some (σ',({}:Res),18)=some (σ2,r,err):=hrun;obtain⟨rfl,rfl,rfl⟩:σ'=σ2∧({}:Res)=r∧18=err:=by simpa using hrun
      exact⟨A2,(.slice none 0 0),rfl,FRow.nil _ _ _,hL3.but t5 hbut,gg.but (Nat.le_succ _) hbut,eq⟩
    by_cases hk1:kd=1
    · subst hk1
      have HC:=zH hcs;clear hcs;go_wp2_with (first|(go_at_call 38;refine HC.out.mono ?_;rintro e w2 ⟨A2,vp,rfl,q1,q2,q3,q4⟩;obtain⟨va,vn,vc,rfl⟩:=frow_form q1;obtain⟨_,_,gq,eq,t1,t2⟩:=HQ.out;obtain⟨t3,t4⟩:=tmp_grow ⟨t1,t2⟩ q3;have HTH:=zH (there_of (tmp_grow ⟨t3,t4⟩ (Grow.alloc A2.L w2 (.cells #[zi 1,zi (r'.e:Int),zi (r'.value:Int),.slice va vn vc,zi (r'.over:Int),zi (r'.reason:Int)] 127))).2);have H2:=zH (zA q1 (zA q2 (zA (gq.trans q3) (zA (q4.trans eq) (zA t3 t4)))));clear q1 q2 q3 q4 gq eq t1 t2 t3 t4));obtain⟨hrun,hj,_⟩:=HQ.out;obtain⟨q1,q2,gq,eq,t3,t4⟩:=H2.out;have ga:=Grow.alloc A2.L w2 (.cells #[zi 1,zi (r'.e:Int),zi (r'.value:Int),.slice va vn vc,zi (r'.over:Int),zi (r'.reason:Int)] 127);obtain⟨t5,t6⟩:=tmp_grow ⟨t3,t4⟩ ga;replace hrun:runDo n σ' s=some (σ2,r,err):=hrun;refine⟨⟨j+1,n,σ',A2,rfl,hrun,by omega,q2.alloc _,gq.trans ga,eq,t5,t6⟩,?_⟩;show 13824000 - ((j:Int)+1).toNat<13824000 - ((j:Int)).toNat;omega
    exfalso;have h:=HQ.out.1;rw[if_neg hk3,if_neg hk2,if_neg hk1] at h;cases h
  · cases hrun
end Go.Proofs.YtpkenfnmkpmapaaGreat.Em
