import Derived.Test.YtbefcdjcefmicaaGreatKq6
import Derived.Test.YtbefcdjcefmicaaGreatKq7
import Derived.Deep.RegionLaw
import Derived.MapKept
namespace Go.Proofs.YtbefcdjcefmicaaGreat.Em
open Go.ChangeShapes Go.WideShapes Go.ChangeAt Go.RowKit En
set_option linter.unusedVariables false
set_option linter.unusedSimpArgs false
set_option maxRecDepth 100000
set_option maxHeartbeats 1600000
def Does (A:Book) (w:World) (s:Nat) (σ':St) (v:Value):Ending→World→Prop:=fun e w'=>
 e=.returned v∧∃ A',Rep A' σ' w'∧Grow A.L w A'.L w'∧Stay A A' s∧A'.bx=A.bx∧A'.vpairs=A.vpairs
theorem kp_same {A A':Book} {σ σ':St} {s:Nat} (st:Stay A A' s) (h1:A'.bx=A.bx) (h2:A'.vpairs=A.vpairs) (h3:(σ'.c s).op.key=(σ.c s).op.key) (h4:(σ'.c s).r.pairs=(σ.c s).r.pairs):kp A' σ' s=kp A σ s:=by
 unfold kp;rw[st.be,st.bt,st.bc,h1,h2,h3,h4]
theorem info_parts {P:Program} {t:TypeId} {z:Value} {s b:Nat} (h:(P.info? t).map (fun i=>(i.zero,i.size,i.bytes))=some (some z,s,b)):∃ i,P.info? t=some i∧i.zero=some z∧i.size=s∧i.bytes=b:=by
 cases hi:P.info? t with
 |none=>rw[hi] at h;cases h
 |some i=>
  rw[hi] at h;simp only[Option.map_some,Option.some.injEq,Prod.mk.injEq] at h;exact⟨i,rfl,h.1,h.2.1,h.2.2⟩
theorem slotOf_cast {l:Nat} (h1:1≤l % 131072):((slotOf l:Nat):Int)=(l:Int) % 131072 - 1:=by unfold slotOf;omega
theorem data_any {A:Book} {σ:St} {w:World} (hR:Rep A σ w) (l:Nat) (h1:1≤l % 131072) (h2:l % 131072≤σ.slots) (hl:l<18446744073709551616):
 Calls Tryz.prog 64 #[.pointer (some ⟨A.be,0,none⟩),zu (l:Int)] w fun e w'=>e=.returned (.pointer (some ⟨A.bv,2*slotOf l,none⟩))∧w=w':=by
 have c4:w.cell? ⟨A.be,4,none⟩=some (.slice (some ⟨A.bv,0,none⟩) σ.slots σ.slots):=hR.eng 4 rfl;have hu:=Word.unlink_any (l:Int) (by omega) (by omega) w;rw[←slotOf_cast h1] at hu;have hi:slotOf l<σ.slots:=by unfold slotOf;omega
 have hsl:=hR.sl;generalize slotOf l=i at*;generalize hn:σ.slots=n at*;have b1:(i:Int)<(n:Int):=by omega
 have b0:(0:Int)≤(i:Int):=by omega
 have HU:=zH hu;clear hR h1 h2 hl hi hn hu;go_enter Tryz.func64,Tryz.ntmps64;go_wp2_with (go_at_call 92;refine HU.out.mono ?_;rintro e w' ⟨rfl,rfl⟩);go_ret;refine⟨?_,rfl⟩
 first|rfl|(simp[Nat.mul_comm];done)
theorem ThnRep.form {p:KP} {L:Lab} {w:World} {v:Value} {key:Nat} {t:Thn} (h:ThnRep p L w v key t):∃ f c,v=.func (.func f) #[] c:=by
 cases t
 · obtain⟨b0,b1,b2,b3,e,_⟩:=h;exact⟨_,_,e⟩
 · obtain⟨b0,b1,b2,b3,b4,e,_⟩:=h;exact⟨_,_,e⟩
 · obtain⟨b0,b1,b2,b3,e,_⟩:=h;exact⟨_,_,e⟩
 · obtain⟨b0,b1,b2,b3,b4,e,_⟩:=h;exact⟨_,_,e⟩
theorem find_any {A:Book} {σ:St} {w:World} (hR:Rep A σ w) (s key at_:Nat) (vt:Value) (thn:Thn) (hv:ThnRep (kp A σ s) A.L w vt key thn):
 Calls Tryz.prog 108 #[.pointer (some ⟨A.be,0,none⟩),.pointer (some ⟨A.bt s,0,none⟩),zi (key:Int),zu (at_:Int),vt] w (Tells A w s (σ,.start ⟨key,at_,thn⟩)):=by
 obtain⟨fv,cv,rfl⟩:=hv.form;have F:=zH (allocs1 hR #[.pointer (some ⟨A.be,0,none⟩),.pointer (some ⟨A.bt s,0,none⟩),zi (key:Int),zu (at_:Int),.func (.func fv) #[] cv] 235);have HV:=zH hv;clear hR hv;go_enter Tryz.func108,Tryz.ntmps108;go_wp2;go_ret;obtain⟨r1,r2,f0⟩:=F.out;exact⟨A,_,rfl,r1,r2,Stay.refl _ _,_,rfl,_,_,f0,HV.out.grow r2⟩
theorem infoS:(Tryz.prog.info? 237).map (fun i=>(i.zero,i.size,i.bytes))=some (some (.agg #[zi 0,zu 0,.bool false]),3,24):=by kernel_rfl
theorem read_any {A:Book} {σ:St} {w:World} (hR:Rep A σ w) (s:Nat) (t:Txn) (ht:σ.txns.getD s none=some t) (key link:Nat) (got:Bool) (hn:t.reads.length<1000000):
 Calls Tryz.prog 110 #[.pointer (some ⟨A.bt s,0,none⟩),zi (key:Int),zu (link:Int),.bool got] w (Does A w s (σ.read s key link got) (.tuple #[])):=by
 have c8:w.cell? ⟨A.bt s,8,none⟩=some (A.vreads s):=hR.txn ht 8 rfl;have z8:=hR.txnF ht 8;have hA:=hR.alloc (.cells #[zi (key:Int),zu (link:Int),.bool got] 237);have hown:=hA.mem.all (.reads s);rw[mem_reads ht] at hown;have ho:=hown.1;obtain⟨av,capv,hv,_⟩:=Ow.own_form ho;have hst:σ.read s key link got=σ.setT s {t with reads:=t.reads++[(key,link,got)]}:=by unfold St.read;rw[txn_get ht]
 rw[hst];have e2:readCs (t.reads++[(key,link,got)])=readCs t.reads++[zi (key:Int),zu (link:Int),.bool got]:=by simp[readCs]
 have hlen:(t.reads++[(key,link,got)]).length=t.reads.length+1:=by simp
 have hbm:0≤(w.alloc (.cells #[zi (key:Int),zu (link:Int),.bool got] 237)).heap.size:=Nat.zero_le _;rw[hv] at c8;have HA:=zH (zA hA (Grow.alloc A.L w (.cells #[zi (key:Int),zu (link:Int),.bool got] 237)));have HT:=zH ht;have HV:=zH hv;have HE:=zH (zA e2 hlen);rw[hv] at ho;clear hR hA ht hown hst hv e2 hlen;generalize hrl:t.reads.length=n at*;have HN:=zH hrl;clear hrl;obtain⟨i0,hi,hz0,hz1,hz2⟩:=info_parts infoS;go_enter Tryz.func110,Tryz.ntmps110;go_wp2_with (at_builtin;refine Ow.wpList_append_to _ rfl (.tmp 12) (.tmp 17) 115 rfl 0 _ i0 _ 3 24 Tryz.underlying115 hi hz0 hz1 hz2 rfl (by decide) (.slice av n capv) n (readCs t.reads) rfl ho ⟨w.heap.size,0,none⟩ 1 1 (by omega) [zi (key:Int),zu (link:Int),.bool got] rfl rfl ?c1 (by intro u hu;simp at hu;rcases hu with rfl|rfl|rfl<;>rfl) (by unfold maxLen;omega) (by omega) hbm ?_)
 case c1=>exact Ow.new_row w [zi (key:Int),zu (link:Int),.bool got] _ _ rfl
 intro v' w2 hown2 hg2 hwh;obtain⟨hA,hG⟩:=HA.out;obtain⟨e2,hlen⟩:=HE.out;obtain⟨a4,cap4,hv4,_⟩:=Ow.own_form hown2;have hrow:=hA.readsOn HT.out (t.reads++[(key,link,got)]) v' (by rw[HV.out];exact hg2) (by rw[e2,hlen];exact hown2) (by rw[HV.out,size_alloc1];exact hwh);have HO:=zH (zA hrow.1 hrow.2.1);have HV4:=zH hv4;obtain⟨_,_,c82,z82⟩:=hrow;rw[HV.out] at c82;clear hA hG e2 hlen hown2 hg2 hwh ho c8 z8 hn hbm;subst hv4;go_wp2_with fail
 go_end0
 obtain⟨r1,r2⟩:=HO.out;exact⟨rfl,_,r1,HA.out.2.trans r2,⟨rfl,rfl,rfl,rfl,rfl,rfl,rfl,rfl,rfl,rfl,rfl,fun _ _=>rfl,fun _ _=>rfl⟩,rfl,rfl⟩
theorem infoE:(Tryz.prog.info? 138).map (fun i=>(i.zero,i.size,i.bytes))=some (some (.agg #[zi 0,zi 0,zu 0,zi 0,zi 0,zi 0,zi 0,zi 0,zi 0,.slice none 0 0,zi 0,zi 0]),12,112):=by kernel_rfl
theorem grown_drew {w w':World} {row:Option Nat} (h:w.drew.grownBy w' row):w.grownBy w' row:=⟨h.os,h.tape,h.output,h.size,h.block⟩
theorem event_any {A:Book} {σ:St} {w:World} (hR:Rep A σ w) (s:Nat) (e:Ev) (k t n ok oy oh ov re rv ro rr:Int) (a:Option Addr) (pn pc:Nat) (hcs:evCs e (.slice a pn pc)=[Value.int .i64 k,zi t,zu n,zi ok,zi oy,zi oh,zi ov,zi re,zi rv,.slice a pn pc,zi ro,zi rr])
 (hp:PRow A.L w (.slice a pn pc) (pairCs e.res.pairs)) (hn:σ.tale.length<1000000):
 Calls Tryz.prog 53 #[.pointer (some ⟨A.be,0,none⟩),.agg #[Value.int .i64 k,zi t,zu n,zi ok,zi oy,zi oh,zi ov,zi re,zi rv,.slice a pn pc,zi ro,zi rr]] w (Does A w s (σ.event e) (.tuple #[])):=by
 obtain⟨h1,g1,_⟩:=allocs1 hR #[Value.int .i64 k,zi t,zu n,zi ok,zi oy,zi oh,zi ov,zi re,zi rv,.slice a pn pc,zi ro,zi rr] 138;have c24:(w.alloc (.cells #[Value.int .i64 k,zi t,zu n,zi ok,zi oy,zi oh,zi ov,zi re,zi rv,.slice a pn pc,zi ro,zi rr] 138)).cell? ⟨A.be,24,none⟩=some A.vtale:=h1.eng 24 rfl;obtain⟨h2,g2,_,_⟩:=allocs2 hR #[Value.int .i64 k,zi t,zu n,zi ok,zi oy,zi oh,zi ov,zi re,zi rv,.slice a pn pc,zi ro,zi rr] 138 #[Value.int .i64 k,zi t,zu n,zi ok,zi oy,zi oh,zi ov,zi re,zi rv,.slice a pn pc,zi ro,zi rr] 138;have hd:Rep A σ ((w.alloc (.cells #[Value.int .i64 k,zi t,zu n,zi ok,zi oy,zi oh,zi ov,zi re,zi rv,.slice a pn pc,zi ro,zi rr] 138)).alloc (.cells #[Value.int .i64 k,zi t,zu n,zi ok,zi oy,zi oh,zi ov,zi re,zi rv,.slice a pn pc,zi ro,zi rr] 138)):=h2;have c25:((w.alloc (.cells #[Value.int .i64 k,zi t,zu n,zi ok,zi oy,zi oh,zi ov,zi re,zi rv,.slice a pn pc,zi ro,zi rr] 138)).alloc (.cells #[Value.int .i64 k,zi t,zu n,zi ok,zi oy,zi oh,zi ov,zi re,zi rv,.slice a pn pc,zi ro,zi rr] 138)).cell? ⟨A.be,24,none⟩=some A.vtale:=h2.eng 24 rfl;have hown:=(hd.mem.all .tale).1;obtain⟨av,capv,hv,_⟩:=Ow.own_form hown;rw[hv] at c24 c25 hown;have F:∀ v' w2,w2.ownsRow 0 138 12 v' (σ.tale.length+1) (A.taleCs++[Value.int .i64 k,zi t,zu n,zi ok,zi oy,zi oh,zi ov,zi re,zi rv,.slice a pn pc,zi ro,zi rr])→((w.alloc (.cells #[Value.int .i64 k,zi t,zu n,zi ok,zi oy,zi oh,zi ov,zi re,zi rv,.slice a pn pc,zi ro,zi rr] 138)).alloc (.cells #[Value.int .i64 k,zi t,zu n,zi ok,zi oy,zi oh,zi ov,zi re,zi rv,.slice a pn pc,zi ro,zi rr] 138)).grownBy w2 A.vtale.ownBlock→(v'.ownBlock=A.vtale.ownBlock∨∀ g,v'.ownBlock=some g→((w.alloc (.cells #[Value.int .i64 k,zi t,zu n,zi ok,zi oy,zi oh,zi ov,zi re,zi rv,.slice a pn pc,zi ro,zi rr] 138)).alloc (.cells #[Value.int .i64 k,zi t,zu n,zi ok,zi oy,zi oh,zi ov,zi re,zi rv,.slice a pn pc,zi ro,zi rr] 138)).heap.size≤g)→
  (∃ A',Rep A' (σ.event e) (w2.setCell ⟨A.be,24,none⟩ v')∧Grow A.L w A'.L (w2.setCell ⟨A.be,24,none⟩ v')∧Stay A A' s∧A'.bx=A.bx∧A'.vpairs=A.vpairs)∧w2.cell? ⟨A.be,24,none⟩=some A.vtale∧w2.frozen? ⟨A.be,24,none⟩=false:=by
  intro v' w2 q1 q2 q3;obtain⟨r1,r2,r3,r4⟩:=hd.eventOn e _ v' (hp.grow g2) q2 (by rw[hcs];exact q1) q3;exact⟨⟨_,r1,g2.trans r2,⟨rfl,rfl,rfl,rfl,rfl,rfl,rfl,rfl,rfl,rfl,rfl,fun _ _=>rfl,fun _ _=>rfl⟩,rfl,rfl⟩,r3,r4⟩
 have hos:=size_alloc1 (w.alloc (.cells #[Value.int .i64 k,zi t,zu n,zi ok,zi oy,zi oh,zi ov,zi re,zi rv,.slice a pn pc,zi ro,zi rr] 138)) (.cells #[Value.int .i64 k,zi t,zu n,zi ok,zi oy,zi oh,zi ov,zi re,zi rv,.slice a pn pc,zi ro,zi rr] 138);rw[size_alloc1] at hos;rw[hv] at F;have HF:=zH F;have HO:=zH hown;have HS:=zH hos;obtain⟨i0,hi,hz0,hz1,hz2⟩:=info_parts infoE;clear hR h1 g1 h2 g2 hd hv hp hcs F hown hos;generalize A.taleCs=xs at*;generalize σ.tale.length=len at*;go_enter Tryz.func53,Tryz.ntmps53;go_wp2_with fail
 go_region_law (first|(refine Ow.wp_append_to _ (.tmp 8) (.tmp 10) 66 rfl 0 _ i0 _ 12 112 Tryz.underlying66 hi hz0 hz1 hz2 rfl (by decide) (.slice av len capv) len xs rfl HO.out ⟨w.heap.size+1,0,none⟩ 1 1 (by omega) [Value.int .i64 k,zi t,zu n,zi ok,zi oy,zi oh,zi ov,zi re,zi rv,.slice a pn pc,zi ro,zi rr] rfl rfl (by intro j u hu;exact Ow.new_row (w.alloc (.cells #[Value.int .i64 k,zi t,zu n,zi ok,zi oy,zi oh,zi ov,zi re,zi rv,.slice a pn pc,zi ro,zi rr] 138)) [Value.int .i64 k,zi t,zu n,zi ok,zi oy,zi oh,zi ov,zi re,zi rv,.slice a pn pc,zi ro,zi rr] _ _ (size_alloc1 _ _).symm j u hu) (by intro u hu;simp at hu;rcases hu with rfl|rfl|rfl|rfl|rfl|rfl|rfl|rfl|rfl|rfl|rfl|rfl<;>rfl) (by unfold maxLen;omega) (by omega) (Nat.zero_le _) ?_;intro v' w2 q1 q2 q3;obtain⟨r1,r2,r3⟩:=HF.out v' w2 q1 (grown_drew q2) q3;obtain⟨a4,cap4,rfl,_⟩:=Ow.own_form q1;have R1:=zH r1;clear r1 q1 q2 q3))
 all_goals (go_end0;exact⟨rfl,R1.out⟩)
theorem rd_one {x:Nat} (h1:x≤1099511627776):rd x=(1,x):=if_pos h1
theorem rd_three:rd 2305843009213693952=(3,0):=by decide
theorem rd_two {x:Nat} (h3:4611686018427387904<x∧x≤4611686018427453439):rd x=(2,x - 4611686018427387904):=by
 unfold rd tm ever txnBit;rw[if_neg (by omega),if_neg (by omega),if_pos (by omega)]
theorem rd_none {x:Nat} (h1:¬ x≤1099511627776) (h2:¬ x=2305843009213693952) (h3:¬ (4611686018427387904<x∧x≤4611686018427453439)):rd x=(0,0):=by
 unfold rd tm ever txnBit;rw[if_neg (by omega),if_neg (by omega),if_neg (by omega)]
theorem rd_cast (x:Nat):Word.rdK (x:Int)=((rd x).1:Int)∧Word.rdN (x:Int)=((rd x).2:Int):=by
 unfold Word.rdK Word.rdN
 by_cases h1:x≤1099511627776
 · have i1:(x:Int)≤1099511627776:=by omega
   rw[rd_one h1];simp only[if_pos i1];exact⟨rfl,trivial⟩
 · have i1:¬ (x:Int)≤1099511627776:=by omega
   by_cases h2:x=2305843009213693952
   · subst h2
     rw[rd_three];exact⟨by decide,by decide⟩
   · have i2:¬ (x:Int)=2305843009213693952:=by omega
     by_cases h3:4611686018427387904<x∧x≤4611686018427453439
     · have i3:4611686018427387904<(x:Int)∧(x:Int)≤4611686018427453439:=by omega
       rw[rd_two h3];simp only[if_neg i1,if_neg i2,if_pos i3];exact⟨rfl,by omega⟩
     · have i3:¬ (4611686018427387904<(x:Int)∧(x:Int)≤4611686018427453439):=by omega
       rw[rd_none h1 h2 h3];simp only[if_neg i1,if_neg i2,if_neg i3];exact⟨rfl,rfl⟩
theorem rd_small (x:Nat) (hx:x<18446744073709551616):(rd x).1≤3∧((rd x).1=2→(rd x).2≤65535)∧(rd x).2<18446744073709551616:=by
 by_cases h1:x≤1099511627776
 · rw[rd_one h1];exact⟨by simp only;omega,by simp only;omega,hx⟩
 · by_cases h2:x=2305843009213693952
   · subst h2;rw[rd_three];exact⟨by decide,by decide,by decide⟩
   · by_cases h3:4611686018427387904<x∧x≤4611686018427453439
     · rw[rd_two h3];exact⟨by simp only;omega,by simp only;omega,by simp only;omega⟩
     · rw[rd_none h1 h2 h3];exact⟨by simp only;omega,by simp only;omega,by simp only;omega⟩
theorem rd_any (x:Nat) (hx:x<18446744073709551616) (w:World):Calls Tryz.prog 93 #[zu (x:Int)] w fun e w'=>e=.returned (.agg #[zi ((rd x).1:Int),zu ((rd x).2:Int)])∧Below w.heap.size w w':=by
 have h:=Word.read_any (x:Int) (by omega) (by omega) w;rw[(rd_cast x).1,(rd_cast x).2] at h;exact h
theorem Fix.cell {L:Lab} {w:World} {b:Nat} {cs:Array Value} {T:TypeId} (h:Fix L w b (.cells cs T)) (i:Nat) {v:Value} (hv:cs[i]? =some v):w.cell? ⟨b,i,none⟩=some v:=by rw[cell_of_row w b i _ _ _ h.2];exact hv
theorem begin_any {A:Book} {σ:St} {w:World} (hR:Rep A σ w) (s:Nat) (t:Txn) (ht:σ.txns.getD s none=some t) (bh:Nat) (hu:Hunt) (hh:HuntAt (kp A σ s) A.L w bh hu) (link x:Nat) (hx:x<18446744073709551616):
 Calls Tryz.prog 181 #[.pointer (some ⟨bh,0,none⟩),zu (link:Int),zu (x:Int)] w (Tells A w s (σ,σ.beginK s hu link x)):=by
 obtain⟨hk3,hk2,hnb⟩:=rd_small x hx;have hrd:=rd_any x hx;obtain⟨r1,g1,f0,f1⟩:=allocs2 hR #[.pointer (some ⟨bh,0,none⟩)] 233 #[zu (link:Int)] 24;have hid:(σ.t s).id=t.id:=by rw[txn_get ht]
 unfold St.beginK;rw[hid];generalize hK:(rd x).1=k at*;generalize hN:(rd x).2=n at*;have hh1:=hh.grow g1;have HR:=zH (zA r1 g1);have HX:=zH hrd;have HF:=zH (zA f0 (zA f1 hh1));have HT:=zH ht;clear r1 g1 f0 f1 hh1 hh hR hrd ht hx hK hN hid
 by_cases k1:k=1
 · subst k1
   clear hk3 hk2
   by_cases hn:n≤hu.at_
   · rw[if_pos ⟨rfl,hn⟩]
     have d1:decide ((n:Int)≤(hu.at_:Int))=true:=by simpa using hn
     have d2:decide (n≤hu.at_)=true:=by simpa using hn
     clear hn hnb;go_enter Tryz.func181,Tryz.ntmps181;go_wp2_with (go_at_call 93;refine (HX.out _).mono ?_;rintro e w2 ⟨rfl,hq⟩);obtain⟨r1,g1⟩:=HR.out;obtain⟨f0,f1,hh1⟩:=HF.out;obtain⟨r3,g3,f2⟩:=allocs1 (r1.below hq) #[zi 1,zu (n:Int)] 190;have gq:=(Grow.below (L:=A.L) hq).trans g3;have F0:=f0.grow gq;have F1:=f1.grow gq;have hh3:=hh1.grow gq;have c0:=F0.cell 0 rfl;have c1:=F1.cell 0 rfl;have s0:=f2.cell 0 rfl;have s1:=f2.cell 1 rfl;obtain⟨vt,HTy,fh,hth⟩:=hh3;have h0:(w2.alloc (.cells #[zi 1,zu (n:Int)] 190)).cell? ⟨bh,1,none⟩=some (.pointer (some ⟨A.bt s,0,none⟩)):=fh.cell 1 rfl;have h3:=fh.cell 3 (v:=zu (hu.at_:Int)) rfl;have t0:(w2.alloc (.cells #[zi 1,zu (n:Int)] 190)).cell? ⟨A.bt s,0,none⟩=some (zi (t.id:Int)):=r3.txn HT.out 0 rfl;have GG:=zH (zA r3 (zA (g1.trans gq) (zA F0 (zA F1 (show HuntAt (kp A σ s) A.L _ bh hu from ⟨vt,HTy,fh,hth⟩)))));clear r1 g1 f0 f1 hh1 r3 g3 gq F0 F1 f2 fh hth hq;generalize w2.heap.size=b2 at*;generalize w2.alloc (.cells #[zi 1,zu (n:Int)] 190)=w3 at*
     go_quiet (fail)
     go_wp2_with (go_at_call 197;refine (ended_any (GG.out.1.drewN _) s bh hu (GG.out.2.2.2.2.grow (Grow.drewN _ _ _)) link 0).mono ?_;rintro e w4 ⟨A',v,rfl,q1,q2,q3,q4⟩);go_ret;exact⟨A',v,rfl,q1,(GG.out.2.1.trans (Grow.drewN _ _ _)).trans q2,q3,q4⟩
   · rw[if_neg (fun e=>hn e.2),if_pos (Or.inl (by omega))]
     have d1:decide ((n:Int)≤(hu.at_:Int))=false:=by simpa using hn
     have d2:decide (n≤hu.at_)=false:=by simpa using hn
     clear hn hnb;go_enter Tryz.func181,Tryz.ntmps181;go_wp2_with (go_at_call 93;refine (HX.out _).mono ?_;rintro e w2 ⟨rfl,hq⟩);obtain⟨r1,g1⟩:=HR.out;obtain⟨f0,f1,hh1⟩:=HF.out;obtain⟨r3,g3,f2⟩:=allocs1 (r1.below hq) #[zi 1,zu (n:Int)] 190;have gq:=(Grow.below (L:=A.L) hq).trans g3;have F0:=f0.grow gq;have F1:=f1.grow gq;have hh3:=hh1.grow gq;have c0:=F0.cell 0 rfl;have c1:=F1.cell 0 rfl;have s0:=f2.cell 0 rfl;have s1:=f2.cell 1 rfl;obtain⟨vt,HTy,fh,hth⟩:=hh3;have h0:(w2.alloc (.cells #[zi 1,zu (n:Int)] 190)).cell? ⟨bh,1,none⟩=some (.pointer (some ⟨A.bt s,0,none⟩)):=fh.cell 1 rfl;have h3:=fh.cell 3 (v:=zu (hu.at_:Int)) rfl;have t0:(w2.alloc (.cells #[zi 1,zu (n:Int)] 190)).cell? ⟨A.bt s,0,none⟩=some (zi (t.id:Int)):=r3.txn HT.out 0 rfl;have GG:=zH (zA r3 (zA (g1.trans gq) (zA F0 (zA F1 (show HuntAt (kp A σ s) A.L _ bh hu from ⟨vt,HTy,fh,hth⟩)))));clear r1 g1 f0 f1 hh1 r3 g3 gq F0 F1 f2 fh hth hq;generalize w2.heap.size=b2 at*;generalize w2.alloc (.cells #[zi 1,zu (n:Int)] 190)=w3 at*
     go_quiet (fail)
     go_wp2_with fail
     go_quiet (fail)
     go_wp2_with fail;go_wp2_with (go_at_call 198;refine (older_any (GG.out.1.drewN _) s bh hu (GG.out.2.2.2.2.grow (Grow.drewN _ _ _)) link).mono ?_;rintro e w4 ⟨A',v,rfl,q1,q2,q3,q4⟩);go_ret;exact⟨A',v,rfl,q1,(GG.out.2.1.trans (Grow.drewN _ _ _)).trans q2,q3,q4⟩
 · by_cases k2:k=2
   · subst k2
     have hn5:=hk2 rfl;rw[if_neg (by omega)];have ew:IntKind.i64.wrap (n:Int)=(n:Int):=by rw[IntKind.wrap_i64];omega
     clear hk3 hk2 k1 hnb
     by_cases hn:n=t.id
     · rw[if_pos (Or.inr hn)]
       have d1:((n:Int)==(t.id:Int))=true:=by simp;omega
       have d2:((n:Int)=(t.id:Int))=True:=by simp;omega
       clear hn hn5;go_enter Tryz.func181,Tryz.ntmps181;go_wp2_with (go_at_call 93;refine (HX.out _).mono ?_;rintro e w2 ⟨rfl,hq⟩);obtain⟨r1,g1⟩:=HR.out;obtain⟨f0,f1,hh1⟩:=HF.out;obtain⟨r3,g3,f2⟩:=allocs1 (r1.below hq) #[zi 2,zu (n:Int)] 190;have gq:=(Grow.below (L:=A.L) hq).trans g3;have F0:=f0.grow gq;have F1:=f1.grow gq;have hh3:=hh1.grow gq;have c0:=F0.cell 0 rfl;have c1:=F1.cell 0 rfl;have s0:=f2.cell 0 rfl;have s1:=f2.cell 1 rfl;obtain⟨vt,HTy,fh,hth⟩:=hh3;have h0:(w2.alloc (.cells #[zi 2,zu (n:Int)] 190)).cell? ⟨bh,1,none⟩=some (.pointer (some ⟨A.bt s,0,none⟩)):=fh.cell 1 rfl;have h3:=fh.cell 3 (v:=zu (hu.at_:Int)) rfl;have t0:(w2.alloc (.cells #[zi 2,zu (n:Int)] 190)).cell? ⟨A.bt s,0,none⟩=some (zi (t.id:Int)):=r3.txn HT.out 0 rfl;have GG:=zH (zA r3 (zA (g1.trans gq) (zA F0 (zA F1 (show HuntAt (kp A σ s) A.L _ bh hu from ⟨vt,HTy,fh,hth⟩)))));clear r1 g1 f0 f1 hh1 r3 g3 gq F0 F1 f2 fh hth hq;generalize w2.heap.size=b2 at*;generalize w2.alloc (.cells #[zi 2,zu (n:Int)] 190)=w3 at*
       go_quiet (fail)
       go_wp2_with fail
       go_quiet (fail)
       go_wp2_with (go_at_call 198;refine (older_any (GG.out.1.drewN _) s bh hu (GG.out.2.2.2.2.grow (Grow.drewN _ _ _)) link).mono ?_;rintro e w4 ⟨A',v,rfl,q1,q2,q3,q4⟩);go_ret;exact⟨A',v,rfl,q1,(GG.out.2.1.trans (Grow.drewN _ _ _)).trans q2,q3,q4⟩
     · rw[if_neg (by omega)]
       have d1:((n:Int)==(t.id:Int))=false:=by simp;omega
       have d2:((n:Int)=(t.id:Int))=False:=by simp;omega
       clear hn hn5;go_enter Tryz.func181,Tryz.ntmps181;go_wp2_with (go_at_call 93;refine (HX.out _).mono ?_;rintro e w2 ⟨rfl,hq⟩);obtain⟨r1,g1⟩:=HR.out;obtain⟨f0,f1,hh1⟩:=HF.out;obtain⟨r3,g3,f2⟩:=allocs1 (r1.below hq) #[zi 2,zu (n:Int)] 190;have gq:=(Grow.below (L:=A.L) hq).trans g3;have F0:=f0.grow gq;have F1:=f1.grow gq;have hh3:=hh1.grow gq;have c0:=F0.cell 0 rfl;have c1:=F1.cell 0 rfl;have s0:=f2.cell 0 rfl;have s1:=f2.cell 1 rfl;obtain⟨vt,HTy,fh,hth⟩:=hh3;have h0:(w2.alloc (.cells #[zi 2,zu (n:Int)] 190)).cell? ⟨bh,1,none⟩=some (.pointer (some ⟨A.bt s,0,none⟩)):=fh.cell 1 rfl;have h3:=fh.cell 3 (v:=zu (hu.at_:Int)) rfl;have t0:(w2.alloc (.cells #[zi 2,zu (n:Int)] 190)).cell? ⟨A.bt s,0,none⟩=some (zi (t.id:Int)):=r3.txn HT.out 0 rfl;have GG:=zH (zA r3 (zA (g1.trans gq) (zA F0 (zA F1 (show HuntAt (kp A σ s) A.L _ bh hu from ⟨vt,HTy,fh,hth⟩)))));clear r1 g1 f0 f1 hh1 r3 g3 gq F0 F1 f2 fh hth hq;generalize w2.heap.size=b2 at*;generalize w2.alloc (.cells #[zi 2,zu (n:Int)] 190)=w3 at*;have GA:∀ q,Rep A σ (w3.drewN q)∧Grow A.L w A.L (w3.drewN q)∧Fix A.L (w3.drewN q) w.heap.size (.cells #[.pointer (some ⟨bh,0,none⟩)] 233)∧Fix A.L (w3.drewN q) (w.heap.size+1) (.cells #[zu (link:Int)] 24)∧HuntAt (kp A σ s) A.L (w3.drewN q) bh hu:=fun q=>
        ⟨GG.out.1.drewN q,GG.out.2.1.trans (Grow.drewN _ _ q),GG.out.2.2.1.grow (Grow.drewN _ _ q),GG.out.2.2.2.1.grow (Grow.drewN _ _ q),GG.out.2.2.2.2.grow (Grow.drewN _ _ q)⟩
       have HA:=zH GA;clear GA
       go_quiet (fail)
       go_wp2_with fail
       go_quiet (fail)
       generalize hw:(w3.drewN _).drewN _=w5;have GB:Rep A σ w5∧Grow A.L w A.L w5∧Fix A.L w5 w.heap.size (.cells #[.pointer (some ⟨bh,0,none⟩)] 233)∧Fix A.L w5 (w.heap.size+1) (.cells #[zu (link:Int)] 24)∧HuntAt (kp A σ s) A.L w5 bh hu:=by
        rw[←hw];obtain⟨p1,p2,p3,p4,p5⟩:=HA.out _;exact⟨p1.drewN _,p2.trans (Grow.drewN _ _ _),p3.grow (Grow.drewN _ _ _),p4.grow (Grow.drewN _ _ _),p5.grow (Grow.drewN _ _ _)⟩
       have s15:w5.cell? ⟨b2,1,none⟩=some (zu (n:Int)):=by rw[←hw];exact s1
       have HM:=zH (allocs1 GB.1 #[zi (n:Int)] 3);have HB:=zH GB;clear GB hw;go_wp2_with fail;go_ret;obtain⟨m1,m2,m3⟩:=HM.out;obtain⟨_,p2,p3,p4,p5⟩:=HB.out;exact⟨A,_,rfl,m1,p2.trans m2,Stay.refl _ _,_,_,_,rfl,⟨_,(p3.grow m2).box,p5.grow m2⟩,m3.box,(p4.grow m2).box⟩
   · rw[if_neg (fun e=>k1 e.1),if_pos (Or.inl k2)]
     have d1:((k:Int)==1)=false:=by simp;omega
     have d2:((k:Int)=1)=False:=by simp;omega
     have d3:((k:Int)==2)=false:=by simp;omega
     have d4:((k:Int)=2)=False:=by simp;omega
     have d5:((k:Int) !=2)=true:=by simp;omega
     clear k1 k2 hk2 hk3 hnb;go_enter Tryz.func181,Tryz.ntmps181;go_wp2_with (go_at_call 93;refine (HX.out _).mono ?_;rintro e w2 ⟨rfl,hq⟩);obtain⟨r1,g1⟩:=HR.out;obtain⟨f0,f1,hh1⟩:=HF.out;obtain⟨r3,g3,f2⟩:=allocs1 (r1.below hq) #[zi (k:Int),zu (n:Int)] 190;have gq:=(Grow.below (L:=A.L) hq).trans g3;have F0:=f0.grow gq;have F1:=f1.grow gq;have hh3:=hh1.grow gq;have c0:=F0.cell 0 rfl;have c1:=F1.cell 0 rfl;have s0:=f2.cell 0 rfl;have s1:=f2.cell 1 rfl;obtain⟨vt,HTy,fh,hth⟩:=hh3;have h0:(w2.alloc (.cells #[zi (k:Int),zu (n:Int)] 190)).cell? ⟨bh,1,none⟩=some (.pointer (some ⟨A.bt s,0,none⟩)):=fh.cell 1 rfl;have h3:=fh.cell 3 (v:=zu (hu.at_:Int)) rfl;have t0:(w2.alloc (.cells #[zi (k:Int),zu (n:Int)] 190)).cell? ⟨A.bt s,0,none⟩=some (zi (t.id:Int)):=r3.txn HT.out 0 rfl;have GG:=zH (zA r3 (zA (g1.trans gq) (zA F0 (zA F1 (show HuntAt (kp A σ s) A.L _ bh hu from ⟨vt,HTy,fh,hth⟩)))));clear r1 g1 f0 f1 hh1 r3 g3 gq F0 F1 f2 fh hth hq;generalize w2.heap.size=b2 at*;generalize w2.alloc (.cells #[zi (k:Int),zu (n:Int)] 190)=w3 at*
     go_quiet (fail)
     go_wp2_with fail
     go_quiet (fail)
     go_wp2_with (go_at_call 198;refine (older_any (GG.out.1.drewN _) s bh hu (GG.out.2.2.2.2.grow (Grow.drewN _ _ _)) link).mono ?_;rintro e w4 ⟨A',v,rfl,q1,q2,q3,q4⟩);go_ret;exact⟨A',v,rfl,q1,(GG.out.2.1.trans (Grow.drewN _ _ _)).trans q2,q3,q4⟩
def ent (f:Nat→Nat) (p:Nat×Nat):MapEntry:=⟨zi (p.1:Int),ptr (f p.1),p.2⟩
theorem findNow_ent (f:Nat→Nat) (key:Nat):∀ (l:List (Nat×Nat)) (i:Nat),Instr.findNow (.int .i64) (zi (key:Int)) (l.map (ent f)) i=some none∧(∀ p∈l,p.1≠key)∨
 ∃ j,Instr.findNow (.int .i64) (zi (key:Int)) (l.map (ent f)) i=some (some (j,ptr (f key)))∧∃ p∈l,p.1=key
 |[],i=>.inl ⟨rfl,by simp⟩
 |p::l,i=>by
  by_cases h:p.1=key
  · right
    refine⟨i,?_,p,by simp,h⟩;rw[List.map_cons];unfold Instr.findNow;simp[ent,Instr.sameNow,h]
  · rcases findNow_ent f key l (i+1) with ⟨h1,h2⟩|⟨j,h1,q,hq,hk⟩
    · left
      refine⟨?_,fun q hq=>(List.mem_cons.1 hq).elim (fun e=>e ▸ h) (h2 q)⟩;rw[List.map_cons];unfold Instr.findNow;have hne:((key:Int)==(p.1:Int))=false:=by simp;omega
      simp[ent,Instr.sameNow,hne];exact h1
    · right
      refine⟨j,?_,q,by simp[hq],hk⟩;rw[List.map_cons];unfold Instr.findNow;have hne:((key:Int)==(p.1:Int))=false:=by simp;omega
      simp[ent,Instr.sameNow,hne];exact h1
theorem mapEs_ent (A:Book) (s:Nat) (t:Txn):mapEs A s t=(t.cells.reverse.zipIdx.map fun p=>(p.1.1,p.2)).map (ent (A.bx s)):=by
 unfold mapEs;rw[List.map_map];rfl
theorem lookup_mem {l:List (Nat×Cel)} {key:Nat} {x:Cel} (h:l.lookup key=some x):(key,x)∈l:=by
 induction l with
 |nil=>cases h
 |cons a l ih=>
  obtain⟨k,y⟩:=a;rw[List.lookup_cons] at h
  by_cases hk:key=k
  · subst hk
    simp at h;subst h;simp
  · rw[beq_false_of_ne hk] at h
    exact List.mem_cons_of_mem _ (ih h)
theorem cell_keys (t:Txn) (key:Nat):(∃ p∈(t.cells.reverse.zipIdx.map fun p=>(p.1.1,p.2)),p.1=key)↔(t.cell key).isSome=true:=by
 constructor
 · rintro ⟨p,hp,hk⟩
   obtain⟨q,hq,rfl⟩:=List.mem_map.1 hp;have h1:=List.mem_reverse.1 (List.fst_mem_of_mem_zipIdx hq)
   cases hc:t.cell key with
   |some x=>rfl
   |none=>exact absurd hk (lookup_none hc _ h1)
 · intro h
   cases hc:t.cell key with
   |none=>rw[hc] at h;cases h
   |some x=>
    have h1:(key,x)∈t.cells:=by
     unfold Txn.cell at hc;exact lookup_mem hc
    obtain⟨i,hi⟩:=List.getElem?_of_mem (List.mem_reverse.2 h1);refine⟨(key,i),List.mem_map.2 ⟨((key,x),i),?_,rfl⟩,rfl⟩;rw[List.mem_zipIdx_iff_getElem?];exact hi
def Book.px (A:Book) (s:Nat) (t:Txn) (key:Nat):Value:=if (t.cell key).isSome then ptr (A.bx s key) else .pointer none
theorem lookup_run {A:Book} {σ:St} {w:World} (hR:Rep A σ w) {s:Nat} {t:Txn} (ht:σ.txns.getD s none=some t) (key:Nat):
 (Instr.lookup 114 (.map (some (A.bm s))) (zi (key:Int)) false).run Tryz.prog w=.ok (A.px s t key) w:=by
 have hb:=hR.map ht;have hz:(zeroValue 202).run Tryz.prog w=.ok (.pointer none) w:=by kernel_rfl
 have hck:∀ e,(Instr.checkKey e 10000 3 (zi (key:Int))).run Tryz.prog w=.ok () w:=by
  intro e;unfold Instr.checkKey;simp[run_underlying Tryz.underlying3]
 rw[mapEs_ent] at hb
 rcases findNow_ent (A.bx s) key (t.cells.reverse.zipIdx.map fun p=>(p.1.1,p.2)) 0 with ⟨h1,h2⟩|⟨j,h1,h2⟩
 · have e:A.px s t key=.pointer none:=by
    unfold Book.px;rw[if_neg];intro h;obtain⟨p,hp,hk⟩:=(cell_keys t key).2 h;exact h2 p hp hk
   rw[e];clear h2 e;generalize (t.cells.reverse.zipIdx.map fun p=>(p.1.1,p.2)).map (ent (A.bx s))=es at*;simp[Instr.lookup,run_underlying Tryz.underlying114,run_underlying Tryz.underlying3,MapKept.run_getObj_map hb,hck,Instr.findKey,h1,hz,Result.andThen]
 · have e:A.px s t key=ptr (A.bx s key):=by
    unfold Book.px;rw[if_pos ((cell_keys t key).1 h2)]
   rw[e];clear h2 e;generalize (t.cells.reverse.zipIdx.map fun p=>(p.1.1,p.2)).map (ent (A.bx s))=es at*;simp[Instr.lookup,run_underlying Tryz.underlying114,run_underlying Tryz.underlying3,MapKept.run_getObj_map hb,hck,Instr.findKey,h1,Result.andThen]
theorem needs_any {A:Book} {σ:St} {w:World} (hR:Rep A σ w) (s:Nat) (t:Txn) (ht:σ.txns.getD s none=some t) (key link:Nat) (got:Bool):
 Calls Tryz.prog 140 #[.pointer (some ⟨A.bt s,0,none⟩),.agg #[zi (key:Int),zu (link:Int),.bool got]] w fun e w'=>e=.returned (.bool (t.needs (key,link,got)))∧Below w.heap.size w w':=by
 obtain⟨r1,g1,f0⟩:=allocs1 hR #[zi (key:Int),zu (link:Int),.bool got] 237;have hbl:Below w.heap.size w (w.alloc (.cells #[zi (key:Int),zu (link:Int),.bool got] 237)):=(Below.refl _ _).alloc (Nat.le_refl _) _;have c0:=f0.cell 0 (v:=zi (key:Int)) rfl;have c2:=f0.cell 2 (v:=.bool got) rfl;have t7:=r1.txn ht 7 (v:=.map (some (A.bm s))) rfl;have t1:=r1.txn ht 1 (v:=zi (t.level:Int)) rfl;have hlk:∀ n,(Instr.lookup 114 (.map (some (A.bm s))) (zi (key:Int)) false).run Tryz.prog ((w.alloc (.cells #[zi (key:Int),zu (link:Int),.bool got] 237)).drewN n)=.ok (A.px s t key) ((w.alloc (.cells #[zi (key:Int),zu (link:Int),.bool got] 237)).drewN n):=fun n=>lookup_run (r1.drewN n) ht key
 have HBL:=zH hbl;clear hR ht r1 g1 f0 hbl;unfold Txn.needs;unfold Book.px at hlk;generalize t.level=lv at*
 by_cases hx:(t.cell key).isSome=true
 · rw[if_pos hx] at hlk
   have hnone:(t.cell key).isNone=false:=by cases h:t.cell key<;>simp[h] at hx ⊢
   have HN:=zH hnone;clear hx hnone;go_enter Tryz.func140,Tryz.ntmps140;go_wp2_with fail;generalize w.alloc (.cells #[zi (key:Int),zu (link:Int),.bool got] 237)=w2 at*
   go_quiet (fail)
   go_wp2_with fail;go_ret;exact⟨by simp[HN.out],HBL.out.trans ⟨rfl,rfl,rfl,Nat.le_refl _,fun _ _=>rfl⟩⟩
 · rw[if_neg hx] at hlk
   have hnone:(t.cell key).isNone=true:=by cases h:t.cell key<;>simp[h] at hx ⊢
   have HN:=zH hnone;clear hx hnone
   by_cases h3:lv=3
   · have H3:=zH h3
     have a3:((lv:Int)==3)=true:=by simp;omega
     have b3:((lv:Int)=3)=True:=by simp;omega
     clear h3;go_enter Tryz.func140,Tryz.ntmps140;go_wp2_with fail;generalize w.alloc (.cells #[zi (key:Int),zu (link:Int),.bool got] 237)=w2 at*
     go_quiet (fail)
     go_wp2_with fail;go_ret;exact⟨by simp[HN.out,H3.out],HBL.out.trans ⟨rfl,rfl,rfl,Nat.le_refl _,fun _ _=>rfl⟩⟩
   · by_cases h2:lv=2
     · have H3:=zH h2
       have a3:((lv:Int)==3)=false:=by simp;omega
       have b3:((lv:Int)=3)=False:=by simp;omega
       have a2:((lv:Int)==2)=true:=by simp;omega
       have b2:((lv:Int)=2)=True:=by simp;omega
       clear h3 h2;go_enter Tryz.func140,Tryz.ntmps140;go_wp2_with fail;generalize w.alloc (.cells #[zi (key:Int),zu (link:Int),.bool got] 237)=w2 at*
       go_quiet (fail)
       go_wp2_with fail;go_ret;exact⟨by simp[HN.out,H3.out],HBL.out.trans ⟨rfl,rfl,rfl,Nat.le_refl _,fun _ _=>rfl⟩⟩
     · have H3:=zH (zA h3 h2)
       have a3:((lv:Int)==3)=false:=by simp;omega
       have b3:((lv:Int)=3)=False:=by simp;omega
       have a2:((lv:Int)==2)=false:=by simp;omega
       have b2:((lv:Int)=2)=False:=by simp;omega
       clear h3 h2;go_enter Tryz.func140,Tryz.ntmps140;go_wp2_with fail;generalize w.alloc (.cells #[zi (key:Int),zu (link:Int),.bool got] 237)=w2 at*
       go_quiet (fail)
       go_wp2_with fail;go_ret;exact⟨by simp[HN.out,H3.out.1,H3.out.2],HBL.out.trans ⟨rfl,rfl,rfl,Nat.le_refl _,fun _ _=>rfl⟩⟩
theorem mine_any {A:Book} {σ:St} {w:World} (hR:Rep A σ w) (s:Nat) (t:Txn) (ht:σ.txns.getD s none=some t) (h1:1≤t.id) (h2:t.id≤65535):
 Calls Tryz.prog 120 #[.pointer (some ⟨A.bt s,0,none⟩)] w fun e w'=>e=.returned (zu ((mine t:Nat):Int))∧w=w':=by
 have c0:w.cell? ⟨A.bt s,0,none⟩=some (zi (t.id:Int)):=hR.txn ht 0 rfl;have e:((mine t:Nat):Int)=4611686018427387904+(t.id:Int):=by unfold mine txnBit;omega
 have hw:=Word.txn_yes (t.id:Int) (by omega) (by omega) w;rw[e];have HW:=zH hw;clear hR ht h1 h2 e hw;go_enter Tryz.func120,Tryz.ntmps120;go_wp2_with (go_at_call 145;refine HW.out.mono ?_;rintro e w' ⟨rfl,rfl⟩);go_ret;exact⟨rfl,rfl⟩
end Go.Proofs.YtbefcdjcefmicaaGreat.Em
