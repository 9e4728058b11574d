import Derived.Test.YtbefcdjcefmicaaGreatKq15
namespace Go.Proofs.YtbefcdjcefmicaaGreat.Em
open Go.ChangeShapes Go.WideShapes Go.ChangeAt Go.RowKit En
set_option linter.unusedVariables false
set_option linter.unusedSimpArgs false
set_option maxRecDepth 100000
set_option maxHeartbeats 1600000
theorem ThnRep.enter {p:KP} {L:Lab} {w:World} {v:Value} {key:Nat} {t:Thn} (h:ThnRep p L w v key t):∃ f c,v=.func (.func f) #[] c∧∀ args w,(callFunc f args).run Tryz.prog w=.ok (.enter f args) w:=by
 cases t
 · obtain⟨b0,b1,b2,b3,e,_⟩:=h;exact⟨_,_,e,fun args w=>by kernel_rfl⟩
 · obtain⟨b0,b1,b2,b3,b4,e,_⟩:=h;exact⟨_,_,e,fun args w=>by kernel_rfl⟩
 · obtain⟨b0,b1,b2,b3,e,_⟩:=h;exact⟨_,_,e,fun args w=>by kernel_rfl⟩
 · obtain⟨b0,b1,b2,b3,b4,e,_⟩:=h;exact⟨_,_,e,fun args w=>by kernel_rfl⟩
def ThnAt (A:Book) (w:World) (σ:St) (s:Nat) (hu:Hunt) (link:Nat):Prop:=∀ w1 f c,Rep A σ w1→Grow A.L w A.L w1→ThnRep (kp A σ s) A.L w1 (.func (.func f) #[] c) hu.key hu.thn→Calls Tryz.prog f (#[zu (link:Int)]++c) w1 (Tells A w1 s (σ.thn s hu link))
theorem visit_any {A:Book} {σ:St} {w:World} (hR:Rep A σ w) (s:Nat) (bh:Nat) (hu:Hunt) (hh:HuntAt (kp A σ s) A.L w bh hu) (link:Nat) (HT:link=0→ThnAt A w σ s hu 0):
 Calls Tryz.prog 161 #[.pointer (some ⟨bh,0,none⟩),zu (link:Int)] w (Tells A w s (σ.visit s hu link)):=by
 obtain⟨r1,g1,f0,f1⟩:=allocs2 hR #[.pointer (some ⟨bh,0,none⟩)] 233 #[zu (link:Int)] 24;have c0:=f0.cell 0 (v:=.pointer (some ⟨bh,0,none⟩)) rfl;have c1:=f1.cell 0 (v:=zu (link:Int)) rfl;have hh1:=hh.grow g1
 by_cases h0:link=0
 · have e0:σ.visit s hu link=σ.thn s hu 0:=by unfold St.visit;rw[if_pos h0]
   rw[e0];obtain⟨vt,TT,fh,hth⟩:=hh1;obtain⟨fv,cv,rfl,hent⟩:=hth.enter;have d1:((link:Int)==0)=true:=by simpa using h0
   have d3:((link:Int)=0)=True:=by simpa using h0
   have h4:=fh.cell 4 (v:=.func (.func fv) #[] cv) rfl;have hf:=HT h0 _ fv cv r1 g1 hth;have HF:=zH (zA hf g1);clear hR hh r1 g1 f0 f1 fh hth hf HT h0 e0;go_enter Tryz.func161,Tryz.ntmps161;go_wp2_with fail;refine HF.out.1.mono ?_;rintro e w3 ⟨A',v,rfl,q1,q2,q3,q4⟩;go_wp2_with fail;go_ret;exact⟨A',v,rfl,q1,HF.out.2.trans q2,q3,q4⟩
 · have e0:σ.visit s hu link=(σ,.visit hu link):=by unfold St.visit;rw[if_neg h0]
   rw[e0];have d1:((link:Int)==0)=false:=by simpa using h0
   have d3:((link:Int)=0)=False:=by simpa using h0
   have HQ:=zH (zA r1 (zA g1 (zA f0 (zA f1 hh1))));clear hR hh r1 g1 f0 f1 hh1 HT h0 e0;go_enter Tryz.func161,Tryz.ntmps161;go_wp2_with fail;go_ret;obtain⟨r1,g1,f0,f1,hh1⟩:=HQ.out;exact⟨A,_,rfl,r1,g1,Stay.refl _ _,_,_,rfl,⟨_,f0.box,hh1⟩,f1.box⟩
theorem k_start {A:Book} {σ:St} {w:World} (hR:Rep A σ w) (s:Nat) (hu:Hunt) (bh:Nat) (hh:HuntAt (kp A σ s) A.L w bh hu) (hk:hu.key<64) (hcnt:σ.count<4000000000000000000) (HT:σ.word (9+hu.key)=0→∀ w1,Rep A σ.tick w1→Grow A.L w A.L w1→ThnAt A w1 σ.tick s hu 0):
 Calls Tryz.prog 139 #[.pointer (some ⟨bh,0,none⟩)] w (Ran A w s (σ.run s (.start hu))):=by
 have hh0:=hh;obtain⟨vt,TT,fh,hth⟩:=hh;have h0:=fh.cell 0 (v:=.pointer (some ⟨A.be,0,none⟩)) rfl;have h2:=fh.cell 2 (v:=zi (hu.key:Int)) rfl;have e2:w.cell? ⟨A.be,2,none⟩=some (.pointer (some ⟨A.ba,0,none⟩)):=hR.eng 2 rfl;have n1:IntKind.i64.wrap (9+(hu.key:Int))=9+(hu.key:Int):=by rw[IntKind.wrap_i64];omega
 have HL:=zH (load_i hR.drew (9+hu.key) (9+(hu.key:Int)) (by omega) (by rw[hR.nw];omega) hcnt);have HG:Hid (Grow A.L w A.L w.drew):=Grow.drew _ _;have HK:Hid (∀ w',Kp A w w'→w'.cell? ⟨bh,0,none⟩=some (.pointer (some ⟨A.be,0,none⟩))∧w'.cell? ⟨bh,2,none⟩=some (zi (hu.key:Int))∧w'.cell? ⟨A.be,2,none⟩=some (.pointer (some ⟨A.ba,0,none⟩))):=fun w' k=>⟨k.fix _ _ _ fh.1 h0,k.fix _ _ _ fh.1 h2,k.ea⟩
 have HB:Hid (∀ w1,Rep A σ.tick w1→Grow A.L w A.L w1→Calls Tryz.prog 161 #[.pointer (some ⟨bh,0,none⟩),zu (σ.word (9+hu.key):Int)] w1 (Tells A w1 s (σ.tick.visit s hu (σ.word (9+hu.key))))):=
  fun w1 r g=>visit_any r s bh hu (hh0.grow g) _ fun hz=>HT hz w1 r g
 have hrun:σ.run s (.start hu)=((σ.tick.visit s hu (σ.word (9+hu.key))).1,some (σ.tick.visit s hu (σ.word (9+hu.key))).2):=rfl;rw[hrun];clear hR hh0 fh hth hk hcnt HT hrun;generalize σ.tick.visit s hu (σ.word (9+hu.key))=res at*;generalize σ.word (9+hu.key)=hd at*;generalize hu.key=key at*;go_enter Tryz.func139,Tryz.ntmps139;go_wp2_with fail
 go_region_held3 (fun w'=>w'.cell? ⟨bh,0,none⟩=some (.pointer (some ⟨A.be,0,none⟩))∧w'.cell? ⟨bh,2,none⟩=some (zi (key:Int))∧w'.cell? ⟨A.be,2,none⟩=some (.pointer (some ⟨A.ba,0,none⟩)))
  (first|exact⟨h0,h2,e2⟩|assumption|exact HK.out _ (Kp.of (by assumption) (by assumption) (by assumption)))
  (first|(go_at_call 73;refine HL.out.mono ?_;rintro e w1 ⟨rfl,q1,q2⟩;have q4:=HG.out.trans q2;have q3:=Stay.refl A s;clear q2)|(go_at_call 161;refine (HB.out _ (by assumption) (by assumption)).mono ?_;rintro e w2 ⟨A',v,rfl,p1,p2,p3,p4⟩;have p5:=(‹Grow A.L w A.L _›).trans p2))
 go_wp2_with fail;go_ret;exact⟨A',_,rfl,p1,p5,p3,p4⟩
theorem cas_i {A:Book} {σ:St} {w:World} (h:Rep A σ w) (i o n:Nat) (z:Int) (hz:z=(i:Int)) (hi:i<σ.words.length) (hc:σ.count<4000000000000000000):
 Calls Tryz.prog 75 #[.pointer (some ⟨A.ba,0,none⟩),zi z,zu (o:Int),zu (n:Int)] w (Did A w (σ.cas i o n) (.bool (σ.word i==o))):=by subst hz;exact cas_any h i o n hi hc
theorem upd_cons (l:List (Nat×Cel)) (key:Nat) (x y:Cel) (h:l.lookup key=none):upd ((key,x)::l) key y=(key,y)::l:=by
 have h1:=lookup_none h;unfold upd;simp only[List.map_cons,if_true]
 congr 1
 conv=>rhs;rw[←List.map_id l]
 refine List.map_congr_left fun p hp=>?_
 simp[h1 p hp]
theorem takeKey_cell {σ:St} {s:Nat} {t:Txn} (ht:σ.txns.getD s none=some t) (key:Nat) (x y:Cel) (hx:t.cell key=none):
 (σ.takeKey s key x).setT s {(σ.takeKey s key x).t s with cells:=upd ((σ.takeKey s key x).t s).cells key y}=σ.takeKey s key y:=by
 have e:(σ.takeKey s key x).t s={t with cells:=(key,x)::t.cells,keys:=t.keys++[key]}:=by
  refine txn_get ?_;unfold St.takeKey;rw[txn_get ht,getT_set (lt_of_txn ht),if_pos rfl]
 rw[e];unfold St.takeKey St.setT;simp only[txn_get ht,List.set_set];rw[upd_cons _ _ _ _ hx]
theorem takeKey_txn {σ:St} {s:Nat} {t:Txn} (ht:σ.txns.getD s none=some t) (key:Nat) (x:Cel):(σ.takeKey s key x).txns.getD s none=some {t with cells:=(key,x)::t.cells,keys:=t.keys++[key]}:=by
 unfold St.takeKey;rw[txn_get ht,getT_set (lt_of_txn ht),if_pos rfl]
theorem k_pushC_miss {A:Book} {σ:St} {w:World} (hR:Rep A σ w) (s:Nat) (t:Txn) (ht:σ.txns.getD s none=some t) (c:Cal) (hc:σ.calls.getD s none=some c) (link head:Nat) (hk:c.op.key<64) (hx:t.cell c.op.key=none) (hkl:t.keys.length<1000000) (hcnt:σ.count<4000000000000000000) (b0 b1 b2 b3 b4:Nat)
 (B0:Box A.L w b0 (.pointer (some ⟨A.be,0,none⟩))) (B1:Box A.L w b1 (.pointer (some ⟨A.bc s,0,none⟩))) (B2:Box A.L w b2 (zu (head:Int))) (B3:Box A.L w b3 (zu (link:Int))) (B4:Box A.L w b4 (.pointer (some ⟨A.bt s,0,none⟩))) (hm:σ.word (9+c.op.key)≠head):
 Calls Tryz.prog 189 #[.pointer (some ⟨b0,0,none⟩),.pointer (some ⟨b1,0,none⟩),.pointer (some ⟨b2,0,none⟩),.pointer (some ⟨b3,0,none⟩),.pointer (some ⟨b4,0,none⟩)] w (Ran A w s (σ.run s (.pushC link head))):=by
 have c0:=B0.cell;have c1:=B1.cell;have c2:=B2.cell;have c3:=B3.cell;have e2:w.cell? ⟨A.be,2,none⟩=some (.pointer (some ⟨A.ba,0,none⟩)):=hR.eng 2 rfl;have k1:w.cell? ⟨A.bc s,1,none⟩=some (zi (c.op.key:Int)):=hR.call hc 1 rfl;have n1:IntKind.i64.wrap (9+(c.op.key:Int))=9+(c.op.key:Int):=by rw[IntKind.wrap_i64];omega
 have HL:=zH (cas_i hR.drew (9+c.op.key) head link (9+(c.op.key:Int)) (by omega) (by rw[hR.nw];omega) hcnt);have HG:Hid (Grow A.L w A.L w.drew):=Grow.drew _ _;have hrun:σ.run s (.pushC link head)=(σ.tick,some (.fresh link)):=by simp[St.run,call_get hc,St.cas,hm]
 rw[hrun];have hb:(σ.word (9+c.op.key)==head)=false:=by simpa using hm
 have hcs:σ.cas (9+c.op.key) head link=σ.tick:=if_neg hm;rw[hb,hcs] at HL;have HB:Hid (∀ w1,Rep A σ.tick w1→Grow A.L w A.L w1→Calls Tryz.prog 125 #[.pointer (some ⟨A.be,0,none⟩),.pointer (some ⟨A.bt s,0,none⟩),.pointer (some ⟨A.bc s,0,none⟩),zu (link:Int)] w1 (Tells A w1 s (σ.tick,.fresh link))∧w1.cell? ⟨b0,0,none⟩=some (.pointer (some ⟨A.be,0,none⟩))∧w1.cell? ⟨b1,0,none⟩=some (.pointer (some ⟨A.bc s,0,none⟩))∧w1.cell? ⟨b3,0,none⟩=some (zu (link:Int))∧w1.cell? ⟨b4,0,none⟩=some (.pointer (some ⟨A.bt s,0,none⟩))):=
  fun w1 q g=>⟨fresh_any q s link,(B0.grow g).cell,(B1.grow g).cell,(B3.grow g).cell,(B4.grow g).cell⟩
 clear hR ht hc hk hx hkl hcnt B0 B1 B2 B3 B4 hm hrun hb hcs;generalize c.op.key=key at*;go_enter Tryz.func189,Tryz.ntmps189;go_wp2_with fail;refine wp_region_still_tail 12 (by kernel_rfl) (by kernel_rfl) ?_;simp only[List.take_succ_cons,List.take_zero,List.drop_succ_cons,List.drop_zero]
 repeat still_step
 refine wpStill_nil ?_;change wpList _ _ _ _ _ w.drew;generalize w.drew=wd at*;go_wp2_with (first|(go_at_call 75;refine HL.out.mono ?_;rintro e w1 ⟨rfl,q1,q2⟩;have g1:=HG.out.trans q2;obtain⟨hf,d0,d1,d3,d4⟩:=HB.out w1 q1 g1;have HQ:=zH (zA hf g1);clear q1 q2 g1 hf)|(go_at_call 125;refine HQ.out.1.mono ?_;rintro e w2 ⟨A2,v,rfl,p1,p2,p3,p4⟩));go_ret;exact⟨A2,v,rfl,p1,HQ.out.2.trans p2,p3,p4⟩
theorem k_pushC_hit {A:Book} {σ:St} {w:World} (hR:Rep A σ w) (s:Nat) (t:Txn) (ht:σ.txns.getD s none=some t) (c:Cal) (hc:σ.calls.getD s none=some c) (link head:Nat) (hk:c.op.key<64) (hx:t.cell c.op.key=none) (hkl:t.keys.length<1000000) (hcnt:σ.count<4000000000000000000) (b0 b1 b2 b3 b4:Nat)
 (B0:Box A.L w b0 (.pointer (some ⟨A.be,0,none⟩))) (B1:Box A.L w b1 (.pointer (some ⟨A.bc s,0,none⟩))) (B2:Box A.L w b2 (zu (head:Int))) (B3:Box A.L w b3 (zu (link:Int))) (B4:Box A.L w b4 (.pointer (some ⟨A.bt s,0,none⟩))) (hm:σ.word (9+c.op.key)=head):
 Calls Tryz.prog 189 #[.pointer (some ⟨b0,0,none⟩),.pointer (some ⟨b1,0,none⟩),.pointer (some ⟨b2,0,none⟩),.pointer (some ⟨b3,0,none⟩),.pointer (some ⟨b4,0,none⟩)] w (Ran A w s (σ.run s (.pushC link head))):=by
 have c0:=B0.cell;have c1:=B1.cell;have c2:=B2.cell;have c3:=B3.cell;have e2:w.cell? ⟨A.be,2,none⟩=some (.pointer (some ⟨A.ba,0,none⟩)):=hR.eng 2 rfl;have k1:w.cell? ⟨A.bc s,1,none⟩=some (zi (c.op.key:Int)):=hR.call hc 1 rfl;have n1:IntKind.i64.wrap (9+(c.op.key:Int))=9+(c.op.key:Int):=by rw[IntKind.wrap_i64];omega
 have HL:=zH (cas_i hR.drew (9+c.op.key) head link (9+(c.op.key:Int)) (by omega) (by rw[hR.nw];omega) hcnt);have HG:Hid (Grow A.L w A.L w.drew):=Grow.drew _ _;have hrun:σ.run s (.pushC link head)=((σ.put (9+c.op.key) link).takeKey s c.op.key ⟨link,0,true⟩,some (.fin {})):=by simp[St.run,call_get hc,St.cas,hm]
 rw[hrun];have hb:(σ.word (9+c.op.key)==head)=true:=by simpa using hm
 have hcs:σ.cas (9+c.op.key) head link=σ.put (9+c.op.key) link:=if_pos hm;rw[hb,hcs] at HL;have HB:Hid (∀ w1,Rep A (σ.put (9+c.op.key) link) w1→Grow A.L w A.L w1→Calls Tryz.prog 176 #[.pointer (some ⟨A.bt s,0,none⟩),zi (c.op.key:Int),zu 0] w1.drew (Took A w1.drew s c.op.key ((σ.put (9+c.op.key) link).takeKey s c.op.key ⟨0,0,false⟩))∧w1.cell? ⟨b1,0,none⟩=some (.pointer (some ⟨A.bc s,0,none⟩))∧w1.cell? ⟨b4,0,none⟩=some (.pointer (some ⟨A.bt s,0,none⟩))∧w1.cell? ⟨A.bc s,1,none⟩=some (zi (c.op.key:Int))):=
  fun w1 q g=>⟨take_tells q.drew s t ht c.op.key 0 hx hkl,(B1.grow g).cell,(B4.grow g).cell,q.call hc 1 rfl⟩
 have HE : Hid (∀ w1 w2 A1 b, Grow A.L w A.L w1 → Rep A1 ((σ.put (9 + c.op.key) link).takeKey s c.op.key ⟨0, 0, false⟩) w2 → Grow A.L w1 A1.L w2 → Stay A A1 s → A1.bx s c.op.key = b → A1.vpairs = A.vpairs →
     w2.cell? ⟨b,0,none⟩=some (zu 0)∧w2.frozen? ⟨b,0,none⟩=false∧w2.cell? ⟨b,2,none⟩=some (.bool false)∧w2.frozen? ⟨b,2,none⟩=false∧w2.cell? ⟨b3,0,none⟩=some (zu (link:Int))∧
     ((w2.setCell ⟨b,0,none⟩ (zu (link:Int))).setCell ⟨b,2,none⟩ (.bool true)).cell? ⟨b0,0,none⟩=some (.pointer (some ⟨A.be,0,none⟩))∧((w2.setCell ⟨b,0,none⟩ (zu (link:Int))).setCell ⟨b,2,none⟩ (.bool true)).cell? ⟨b1,0,none⟩=some (.pointer (some ⟨A.bc s,0,none⟩))∧
     Calls Tryz.prog 107 #[.pointer (some ⟨A.be,0,none⟩),.pointer (some ⟨A.bc s,0,none⟩),.agg #[zi 0,zi 0,.slice none 0 0,zi 0,zi 0]] ((w2.setCell ⟨b,0,none⟩ (zu (link:Int))).setCell ⟨b,2,none⟩ (.bool true)) (Tells A1 ((w2.setCell ⟨b,0,none⟩ (zu (link:Int))).setCell ⟨b,2,none⟩ (.bool true)) s ((σ.put (9+c.op.key) link).takeKey s c.op.key ⟨link,0,true⟩,.fin {}))∧
     Grow A.L w A1.L ((w2.setCell ⟨b,0,none⟩ (zu (link:Int))).setCell ⟨b,2,none⟩ (.bool true))):=by
  intro w1 w2 A1 b g1 r2 g2 st hbx hvp;have ht1:(σ.put (9+c.op.key) link).txns.getD s none=some t:=ht;have ht2:=takeKey_txn ht1 c.op.key ⟨0,0,false⟩;have hx2:({t with cells:=(c.op.key,(⟨0,0,false⟩:Cel))::t.cells,keys:=t.keys++[c.op.key]}:Txn).cell c.op.key=some ⟨0,0,false⟩:=by simp[Txn.cell,List.lookup]
  obtain⟨a0,a1,a2⟩:=r2.cel ht2 hx2;have z0:=r2.celF ht2 hx2 0;have z2:=r2.celF ht2 hx2 2;obtain⟨r3,g3⟩:=r2.celSet ht2 hx2 ⟨link,0,false⟩ 0 (zu (link:Int)) rfl;have e3:=takeKey_cell ht1 c.op.key ⟨0,0,false⟩ ⟨link,0,false⟩ hx;rw[txn_get ht2] at e3;rw[e3] at r3;have ht3:=takeKey_txn ht1 c.op.key ⟨link,0,false⟩;have hx3:({t with cells:=(c.op.key,(⟨link,0,false⟩:Cel))::t.cells,keys:=t.keys++[c.op.key]}:Txn).cell c.op.key=some ⟨link,0,false⟩:=by simp[Txn.cell,List.lookup]
  obtain⟨r4,g4⟩:=r3.celSet ht3 hx3 ⟨link,0,true⟩ 2 (.bool true) rfl;have e4:=takeKey_cell ht1 c.op.key ⟨link,0,false⟩ ⟨link,0,true⟩ hx;rw[txn_get ht3] at e4;rw[e4] at r4;rw[hbx] at a0 a2 z0 z2 g3 r4 g4;have g5:=((g1.trans g2).trans g3).trans g4;have he:=ends_at r4 s {} 0 0 0 0 (.slice none 0 0) rfl (.inr ⟨rfl,rfl⟩);rw[st.be,st.bc] at he;exact⟨a0,z0,a2,z2,(B3.grow (g1.trans g2)).cell,(B0.grow g5).cell,(B1.grow g5).cell,he,g5⟩
 clear hR ht hc hk hx hkl hcnt B0 B1 B2 B3 B4 hm hrun hb hcs;generalize (σ.put (9+c.op.key) link).takeKey s c.op.key ⟨0,0,false⟩=σ1 at*;generalize (σ.put (9+c.op.key) link).takeKey s c.op.key ⟨link,0,true⟩=σ2 at*;generalize c.op.key=key at*;go_enter Tryz.func189,Tryz.ntmps189;go_wp2_with fail;refine wp_region_still_tail 12 (by kernel_rfl) (by kernel_rfl) ?_;simp only[List.take_succ_cons,List.take_zero,List.drop_succ_cons,List.drop_zero]
 repeat still_step
 refine wpStill_nil ?_;change wpList _ _ _ _ _ w.drew;generalize w.drew=wd at*;go_wp2_with (go_at_call 75;refine HL.out.mono ?_;rintro e w1 ⟨rfl,q1,q2⟩;have g1:=HG.out.trans q2;obtain⟨hf,d1,d4,d5⟩:=HB.out w1 q1 g1;have HQ:=zH (zA hf (g1.trans (Grow.drew _ _)));clear q1 q2 g1 hf);refine wp_region_still_tail 6 (by kernel_rfl) (by kernel_rfl) ?_;simp only[List.take_succ_cons,List.take_zero,List.drop_succ_cons,List.drop_zero]
 repeat still_step
 refine wpStill_nil ?_;change wpList _ _ _ _ _ w1.drew;generalize w1.drew=wd1 at*;go_wp2_with (first|(go_at_call 176;refine HQ.out.1.mono ?_;rintro e w2 ⟨b,rfl,A1,r2,g2,st,hbx,hvp⟩;obtain⟨a0,z0,a2,z2,d3,y0,y1,he,g5⟩:=HE.out _ w2 A1 b HQ.out.2 r2 g2 st hbx hvp;have HZ:=zH (zA he (zA g5 st));clear r2 g2 st hbx hvp he g5)|(go_at_call 107;refine HZ.out.1.mono ?_;rintro e w3 ⟨A2,v,rfl,p1,p2,p3,p4⟩));go_ret;exact⟨A2,v,rfl,p1,HZ.out.2.1.trans p2,HZ.out.2.2.trans p3,p4⟩
theorem k_pushC {A:Book} {σ:St} {w:World} (hR:Rep A σ w) (s:Nat) (t:Txn) (ht:σ.txns.getD s none=some t) (c:Cal) (hc:σ.calls.getD s none=some c) (link head:Nat) (hk:c.op.key<64) (hx:t.cell c.op.key=none) (hkl:t.keys.length<1000000) (hcnt:σ.count<4000000000000000000) (b0 b1 b2 b3 b4:Nat)
 (B0:Box A.L w b0 (.pointer (some ⟨A.be,0,none⟩))) (B1:Box A.L w b1 (.pointer (some ⟨A.bc s,0,none⟩))) (B2:Box A.L w b2 (zu (head:Int))) (B3:Box A.L w b3 (zu (link:Int))) (B4:Box A.L w b4 (.pointer (some ⟨A.bt s,0,none⟩))):
 Calls Tryz.prog 189 #[.pointer (some ⟨b0,0,none⟩),.pointer (some ⟨b1,0,none⟩),.pointer (some ⟨b2,0,none⟩),.pointer (some ⟨b3,0,none⟩),.pointer (some ⟨b4,0,none⟩)] w (Ran A w s (σ.run s (.pushC link head))):=by
 by_cases hm:σ.word (9+c.op.key)=head
 · exact k_pushC_hit hR s t ht c hc link head hk hx hkl hcnt b0 b1 b2 b3 b4 B0 B1 B2 B3 B4 hm
 · exact k_pushC_miss hR s t ht c hc link head hk hx hkl hcnt b0 b1 b2 b3 b4 B0 B1 B2 B3 B4 hm
end Go.Proofs.YtbefcdjcefmicaaGreat.Em
