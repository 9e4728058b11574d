import Derived.Test.YthicolbbmjfkfaaGreatQp7
import Derived.Test.YthicolbbmjfkfaaGreatQp11
import Derived.Defers
namespace Go.Proofs.YthicolbbmjfkfaaGreat.Em
open Go.ChangeShapes Go.WideShapes Go.ChangeAt Go.RowKit En
set_option linter.unusedVariables false
set_option linter.unusedSimpArgs false
set_option maxRecDepth 100000
set_option maxHeartbeats 1600000
variable {A:Book} {σ:St} {w:World}
theorem finish_any (hR:Rep A σ w) (s:Nat) (c:Cal) (hc:σ.calls.getD s none=some c) (r:Res) (a:Option Addr) (pn pc:Nat) (vp:Value) (hvp:vp=.slice a pn pc)
 (hp:(vp=A.vpairs s∧r.pairs=c.r.pairs)∨(vp=.slice none 0 0∧r.pairs=[])):
 Calls Tryz.prog 141 #[.pointer (some ⟨A.be,0,none⟩),.pointer (some ⟨A.bc s,0,none⟩),.agg #[zi (r.e:Int),zi (r.value:Int),vp,zi (r.over:Int),zi (r.reason:Int)]] w (Ran A w s (σ.finish s r,none)):=by
 obtain⟨r1,g1,f0⟩:=allocs1 hR #[zi (r.e:Int),zi (r.value:Int),vp,zi (r.over:Int),zi (r.reason:Int)] 46;obtain⟨r2,g2⟩:=r1.resSet hc r vp hp;have hc2:(σ.setC s {c with r:=r}).calls.getD s none=some {c with r:=r}:=by rw[getC_set (lt_of_call hc),if_pos rfl]
 obtain⟨r3,g3⟩:=r2.setCall hc2 {c with r:=r,over:=true} 11 (.bool true) rfl rfl;have c11:=r2.call hc2 11 (v:=.bool c.over) rfl;have z11:=r2.callF hc2 11;have ht:(w.alloc (.cells #[zi (r.e:Int),zi (r.value:Int),vp,zi (r.over:Int),zi (r.reason:Int)] 46)).there (A.bc s) 5 5:=by
  intro j hj;refine⟨?_,r1.callF hc _⟩
  match j,hj with
  |0,_=>rw[r1.call hc 5 rfl];rfl
  |1,_=>rw[r1.call hc 6 rfl];rfl
  |2,_=>rw[r1.call hc 7 rfl];rfl
  |3,_=>rw[r1.call hc 8 rfl];rfl
  |4,_=>rw[r1.call hc 9 rfl];rfl
 have b0:=f0.cell 0 (v:=zi (r.e:Int)) rfl;have b1:=f0.cell 1 (v:=zi (r.value:Int)) rfl;have b2:=f0.cell 2 (v:=vp) rfl;have b3:=f0.cell 3 (v:=zi (r.over:Int)) rfl;have b4:=f0.cell 4 (v:=zi (r.reason:Int)) rfl;have e:σ.finish s r=(σ.setC s {c with r:=r}).setC s {c with r:=r,over:=true}:=by
  unfold St.finish St.setC;rw[call_get hc];simp
 rw[e];have HR:Hid (∀ ws,ws=(w.alloc (.cells #[zi (r.e:Int),zi (r.value:Int),vp,zi (r.over:Int),zi (r.reason:Int)] 46)).setCells (A.bc s) 5 [zi (r.e:Int),zi (r.value:Int),vp,zi (r.over:Int),zi (r.reason:Int)]→ws.cell? ⟨A.bc s,11,none⟩=some (.bool c.over)∧ws.frozen? ⟨A.bc s,11,none⟩=false∧Rep (A.resPairs s vp) ((σ.setC s {c with r:=r}).setC s {c with r:=r,over:=true}) (ws.setCell ⟨A.bc s,11,none⟩ (.bool true))∧Grow A.L w A.L (ws.setCell ⟨A.bc s,11,none⟩ (.bool true))):=by
  rintro ws rfl;exact⟨c11,z11,r3,(g1.trans g2).trans g3⟩
 have HT:=zH ht;clear hR hc r1 g1 f0 r2 g2 hc2 r3 g3 ht e hp c11 z11;subst hvp;go_enter Tryz.func141,Tryz.ntmps141;go_wp2_with (refine wpList_store_mid rfl 46 (.tmp 10) (.tmp 8) rfl (A.bc s) 5 #[zi (r.e:Int),zi (r.value:Int),.slice a pn pc,zi (r.over:Int),zi (r.reason:Int)] rfl rfl HT.out (by kernel_rfl) (by simp[Value.oneCell']) ?_;generalize hws:World.setCells _ _ _ _=ws;obtain⟨k1,k2,k3⟩:=HR.out ws hws.symm;have HK:=zH k3;clear k3 hws);go_ret;exact⟨_,_,rfl,HK.out.1,HK.out.2,⟨rfl,rfl,rfl,rfl,rfl,rfl,rfl,rfl,rfl,rfl,rfl,fun _ _=>rfl,fun k hk=>upF_other _ _ hk⟩,rfl⟩
theorem k_fin (hR:Rep A σ w) (s:Nat) (c:Cal) (hc:σ.calls.getD s none=some c) (r:Res) (b0 b1 b2:Nat) (B0:Box A.L w b0 (.pointer (some ⟨A.be,0,none⟩))) (B1:Box A.L w b1 (.pointer (some ⟨A.bc s,0,none⟩))) (B2:ResBox (kp A σ s) A.L w b2 r):
 Calls Tryz.prog 140 #[.pointer (some ⟨b0,0,none⟩),.pointer (some ⟨b1,0,none⟩),.pointer (some ⟨b2,0,none⟩)] w (Ran A w s (σ.run s (.fin r))):=by
 obtain⟨vp,TT,F2,hp⟩:=B2;have hps:(kp A σ s).ps=c.r.pairs:=by show (σ.c s).r.pairs=_;rw[call_get hc]
 rw[hps] at hp;have hform:∃ a n cap,vp=.slice a n cap:=by
  rcases hp with ⟨h1,_⟩|⟨h1,_⟩
  · have hown:=hR.mem.all (.pairs s)
    rw[mem_pairs hc] at hown;obtain⟨a,cap,h2,_⟩:=Ow.own_form hown.1;exact⟨a,_,cap,h1.trans h2⟩
  · exact⟨none,0,0,h1⟩
 obtain⟨a,pn,pc,hvp⟩:=hform;have HF:=zH (finish_any hR s c hc r a pn pc vp hvp hp);have c0:=B0.cell;have c1:=B1.cell;have d0:=F2.cell 0 (v:=zi (r.e:Int)) rfl;have d1:=F2.cell 1 (v:=zi (r.value:Int)) rfl;have d2:=F2.cell 2 (v:=vp) rfl;have d3:=F2.cell 3 (v:=zi (r.over:Int)) rfl;have d4:=F2.cell 4 (v:=zi (r.reason:Int)) rfl;clear hR hc B0 B1 F2 hp hps;subst hvp;go_enter Tryz.func140,Tryz.ntmps140;go_wp2_with (go_at_call 141;refine HF.out.mono ?_;rintro e w2 ⟨A2,v,rfl,p1,p2,p3,rfl⟩);go_ret;exact⟨A2,_,rfl,p1,p2,p3,rfl⟩
def Told (A:Book) (w:World) (s:Nat) (σ':St):Ending→World→Prop:=fun e w'=>e=.returned (.tuple #[])∧∃ A',Rep A' σ' w'∧Grow A.L w A'.L w'∧Stay A A' s∧A'.bx=A.bx∧A'.vpairs=A.vpairs
theorem tell1_any (hR:Rep A σ w) (s:Nat) (t:Txn) (ht:σ.txns.getD s none=some t) (e:Ev) (kk tt rr:Int) (hcs:evCs e (.slice none 0 0)=[zi kk,zi tt,zu 0,zi 0,zi 0,zi 0,zi 0,zi 0,zi 0,.slice none 0 0,zi 0,zi rr]) (hp:e.res.pairs=[]) (hn:σ.tale.length<1000000) (b0 b1 b2:Nat) (B0:Box A.L w b0 (.pointer (some ⟨A.bt s,0,none⟩))) (B1:Box A.L w b1 (.pointer (some ⟨A.be,0,none⟩))) (TT:TypeId) (X2:Fix A.L w b2 (.cells #[zi kk,zi tt,zu 0,zi 0,zi 0,zi 0,zi 0,zi 0,zi 0,.slice none 0 0,zi 0,zi rr] TT)):
 Calls Tryz.prog 147 #[.pointer (some ⟨b0,0,none⟩),.pointer (some ⟨b1,0,none⟩),.pointer (some ⟨b2,0,none⟩)] w (Told A w s (σ.event e)):=by
 have c0:=B0.cell;have t13:w.cell? ⟨A.bt s,13,none⟩=some (.bool (A.vover s)):=hR.txn ht 13 rfl;have z13:=hR.txnF ht 13;obtain⟨r1,g1⟩:=hR.txnOver ht true;have B1':=(B1.grow g1).cell;have X2':=X2.grow g1;have x0:=X2'.cell 0 (v:=zi kk) rfl;have x1:=X2'.cell 1 (v:=zi tt) rfl;have x2:=X2'.cell 2 (v:=zu 0) rfl;have x3:=X2'.cell 3 (v:=zi 0) rfl;have x4:=X2'.cell 4 (v:=zi 0) rfl;have x5:=X2'.cell 5 (v:=zi 0) rfl;have x6:=X2'.cell 6 (v:=zi 0) rfl;have x7:=X2'.cell 7 (v:=zi 0) rfl;have x8:=X2'.cell 8 (v:=zi 0) rfl;have x9:=X2'.cell 9 (v:=.slice none 0 0) rfl;have x10:=X2'.cell 10 (v:=zi 0) rfl;have x11:=X2'.cell 11 (v:=zi rr) rfl;have he:=event_any r1 s e kk tt 0 0 0 0 0 0 0 0 rr none 0 0 hcs (by rw[hp];exact PRow.nil _ _) hn;have HE:=zH (zA he g1);clear hR ht B0 B1 X2 X2' r1 g1 he hcs hp hn;go_enter Tryz.func147,Tryz.ntmps147;go_wp2_with (go_at_call 50;refine HE.out.1.mono ?_;rintro e' w2 ⟨rfl,A2,q1,q2,q3,q4,q5⟩)
 go_end0
 exact⟨rfl,A2,q1,HE.out.2.trans q2,⟨q3.bf,q3.ba,q3.bp,q3.bt,q3.bm,q3.bc,q3.vnext,q3.vcall,q3.vsweep,q3.mp,q3.mt,q3.bx,q3.vpairs⟩,q4,q5⟩
theorem tell_any (hR:Rep A σ w) (s:Nat) (t:Txn) (ht:σ.txns.getD s none=some t) (hm:A.mt s=0) (e:Ev) (kk tt rr:Int) (hcs:evCs e (.slice none 0 0)=[zi kk,zi tt,zu 0,zi 0,zi 0,zi 0,zi 0,zi 0,zi 0,.slice none 0 0,zi 0,zi rr]) (hp:e.res.pairs=[]) (hn:σ.tale.length<1000000):
 Calls Tryz.prog 125 #[.pointer (some ⟨A.be,0,none⟩),.pointer (some ⟨A.bt s,0,none⟩),.agg #[zi kk,zi tt,zu 0,zi 0,zi 0,zi 0,zi 0,zi 0,zi 0,.slice none 0 0,zi 0,zi rr]] w (Told A w s (σ.tellEnd s e)):=by
 obtain⟨r3,g3,f0,f1,f2⟩:=allocs3 hR #[.pointer (some ⟨A.be,0,none⟩)] 32 #[.pointer (some ⟨A.bt s,0,none⟩)] 100 #[zi kk,zi tt,zu 0,zi 0,zi 0,zi 0,zi 0,zi 0,zi 0,.slice none 0 0,zi 0,zi rr] 62;have a1:=f1.cell 0 (v:=.pointer (some ⟨A.bt s,0,none⟩)) rfl
 by_cases ho:t.over=true
 · have e0:σ.tellEnd s e=σ:=by unfold St.tellEnd;rw[txn_get ht,if_pos ho]
   rw[e0];have t10:=r3.txn ht 10 (v:=.int .u32 1) (by simp[txnCs,onceCs,ho]);have HD:=zH (fun fv=>do_done ⟨A.bt s,10,none⟩ fv _ t10);have HR:=zH (zA r3 g3);clear hR ht r3 g3 f0 f1 f2 hm hcs hp hn ho e0 t10;go_enter Tryz.func125,Tryz.ntmps125;go_wp2_with (go_at_call 146;refine (HD.out _).mono ?_;rintro e' w2 ⟨rfl,rfl⟩)
   go_end0
   exact⟨rfl,A,HR.out.1,HR.out.2,Stay.refl _ _,rfl,rfl⟩
 · have ho':t.over=false:=by simpa using ho
   have e0:σ.tellEnd s e=(σ.setT s {t with over:=true}).event e:=by unfold St.tellEnd;rw[txn_get ht,if_neg ho]
   rw[e0];have t10:=r3.txn ht 10 (v:=.int .u32 0) (by simp[txnCs,onceCs,ho']);have t11:=r3.txn ht 11 (v:=.int .i32 0) (by simp[txnCs,onceCs,hm]);have z10:=r3.txnF ht 10;have z11:=r3.txnF ht 11;obtain⟨r4,g4⟩:=r3.txnLock ht 1;have hf:=tell1_any r4 s t ht e kk tt rr hcs hp hn (w.heap.size+1) w.heap.size (w.heap.size+1+1) (f1.box.grow g4) (f0.box.grow g4) _ (f2.grow g4)
   have hd := do_first (A.bt s) 10 147 #[.pointer (some ⟨w.heap.size + 1, 0, none⟩), .pointer (some ⟨w.heap.size, 0, none⟩), .pointer (some ⟨w.heap.size + 1 + 1, 0, none⟩)] _ _ t10 t11 z10 z11 (enter_tell _) hf (by
     rintro w' ⟨A',q1,q2,q3,q4,q5⟩
     have ht':(σ.event e).txns.getD s none=some t:=ht
     have b10:=q1.txn ht' 10 (v:=.int .u32 0) (by simp[txnCs,onceCs,ho'])
     have b11:=q1.txn ht' 11 (v:=.int .i32 1) (by simp[txnCs,onceCs,q3.mt])
     have y10:=q1.txnF ht' 10
     have y11:=q1.txnF ht' 11
     rw[q3.bt] at b10 b11 y10 y11
     exact⟨b10,b11,y10,y11⟩)
   have HD:=zH hd;have HR:=zH (zA g3 g4);have HT:=zH (zA ht hm);clear hR ht r3 g3 f0 f1 f2 hm hcs hp hn ho ho' e0 t10 t11 z10 z11 r4 g4 hf hd;go_enter Tryz.func125,Tryz.ntmps125;go_wp2_with (go_at_call 146;refine HD.out.mono ?_;rintro e' w2 ⟨rfl,w3,⟨A',q1,q2,q3,q4,q5⟩,rfl⟩)
   go_end0
   have ht':(σ.event e).txns.getD s none=some t:=HT.out.1;obtain⟨k1,g5⟩:=q1.drew.txnDone ht';have ht2:((σ.event e).setT s {t with over:=true}).txns.getD s none=some {t with over:=true}:=by rw[getT_set (lt_of_txn ht'),if_pos rfl]
   obtain⟨k2,g6⟩:=k1.txnLock ht2 0;have gg:=((((HR.out.1.trans HR.out.2).trans q2).trans (Grow.drew _ _)).trans g5).trans g6;have eb:A'.bt s=A.bt s:=by rw[q3.bt]
   rw[eb] at k2 gg;refine⟨rfl,_,k2,gg,⟨q3.bf,q3.ba,q3.bp,q3.bt,q3.bm,q3.bc,q3.vnext,q3.vcall,q3.vsweep,q3.mp,?_,q3.bx,q3.vpairs⟩,q4,q5⟩;show (fun k=>if k=s then 0 else A'.mt k)=A.mt;rw[q3.mt]
   funext k
   show (if k=s then 0 else if k=s then 1 else A.mt k)=A.mt k
   by_cases hk:k=s
   · rw[if_pos hk,hk,HT.out.2]
   · rw[if_neg hk,if_neg hk]
theorem store_i (h:Rep A σ w) (i n:Nat) (z y:Int) (hz:z=(i:Int)) (hy:y=(n:Int)) (hi:i<σ.words.length) (hc:σ.count<4000000000000000000):
 Calls Tryz.prog 47 #[.pointer (some ⟨A.ba,0,none⟩),zi z,zu y] w (Did A w (σ.put i n) (.tuple #[])):=by subst hz hy;exact store_any h i n hi hc
theorem trnCs_length (l:List Trn):(trnCs l).length=l.length*3:=by
 induction l with
 |nil=>rfl
 |cons x l ih=>simp only[trnCs,List.flatMap_cons,List.length_append,List.length_cons,List.length_nil] at ih ⊢;omega
theorem turns_any (hR:Rep A σ w) (s:Nat) (l:List Trn) (lv:Value) (hl:FRow A.L w 3 lv (trnCs l)) (r:Res) (vp:Value) (hp:(vp=A.vpairs s∧r.pairs=(σ.c s).r.pairs)∨(vp=.slice none 0 0∧r.pairs=[])):
 Calls Tryz.prog 128 #[.pointer (some ⟨A.be,0,none⟩),.pointer (some ⟨A.bt s,0,none⟩),.pointer (some ⟨A.bc s,0,none⟩),lv,.agg #[zi (r.e:Int),zi (r.value:Int),vp,zi (r.over:Int),zi (r.reason:Int)]] w (Tells A w s (σ,.turns l r)):=by
 have hl0:=hl;obtain⟨a,n,cap,rfl,hlen,hcap,hmax,hrow⟩:=hl;rw[trnCs_length] at hlen;have FA:=zH (allocs5 hR #[.pointer (some ⟨A.be,0,none⟩)] 32 #[.pointer (some ⟨A.bt s,0,none⟩)] 100 #[.pointer (some ⟨A.bc s,0,none⟩)] 105 #[.slice a n cap] 232 #[zi (r.e:Int),zi (r.value:Int),vp,zi (r.over:Int),zi (r.reason:Int)] 46);have HL:=zH (zA hl0 hp);clear hR hp hl0 hcap hmax hrow
 cases l with
 |nil=>
  obtain rfl:n=0:=by simp at hlen;omega
  clear hlen;go_enter Tryz.func128,Tryz.ntmps128;go_wp2_with fail;go_ret;obtain⟨r1,r2,f0,f1,f2,f3,f4⟩:=FA.out;exact⟨A,_,rfl,r1,r2,Stay.refl _ _,_,_,_,_,rfl,f0.box,f1.box,f2.box,_,_,f4,HL.out.2⟩
 |cons x l=>
  have hn0:n≠0:=by simp at hlen;omega
  have d1:((n:Int)==0)=false:=by simp;omega
  have d2:((n:Int)=0)=False:=by simp;omega
  have d3:(n=0)=False:=by simp;omega
  clear hlen hn0;go_enter Tryz.func128,Tryz.ntmps128;go_wp2_with fail;go_ret;obtain⟨r1,r2,f0,f1,f2,f3,f4⟩:=FA.out;exact⟨A,_,rfl,r1,r2,Stay.refl _ _,_,_,_,_,_,rfl,⟨_,f3.box,HL.out.1.grow r2⟩,f0.box,f1.box,f2.box,_,_,f4,HL.out.2⟩
theorem k_turnsE (hR:Rep A σ w) (s:Nat) (t:Txn) (ht:σ.txns.getD s none=some t) (c:Cal) (hc:σ.calls.getD s none=some c) (r:Res) (hs:s<8) (hcnt:σ.count<4000000000000000000) (b0 b1 b2 b3:Nat)
 (B0:Box A.L w b0 (.pointer (some ⟨A.be,0,none⟩))) (B1:Box A.L w b1 (.pointer (some ⟨A.bt s,0,none⟩))) (B2:Box A.L w b2 (.pointer (some ⟨A.bc s,0,none⟩))) (B3:ResBox (kp A σ s) A.L w b3 r):
 Calls Tryz.prog 149 #[.pointer (some ⟨b0,0,none⟩),.pointer (some ⟨b1,0,none⟩),.pointer (some ⟨b2,0,none⟩),.pointer (some ⟨b3,0,none⟩)] w (Ran A w s (σ.run s (.turns [] r))):=by
 obtain⟨vp,TR,FR,hp⟩:=B3;have hps:(kp A σ s).ps=c.r.pairs:=by show (σ.c s).r.pairs=_;rw[call_get hc]
 rw[hps] at hp;have hform:∃ a n cap,vp=.slice a n cap:=by
  rcases hp with ⟨h1,_⟩|⟨h1,_⟩
  · have hown:=hR.mem.all (.pairs s)
    rw[mem_pairs hc] at hown;obtain⟨a,cap,h2,_⟩:=Ow.own_form hown.1;exact⟨a,_,cap,h1.trans h2⟩
  · exact⟨none,0,0,h1⟩
 obtain⟨va,vn,vc,hvp⟩:=hform;have c0:=B0.cell;have c1:=B1.cell;have c2:=B2.cell;have e2:=hR.z2;have t2:w.cell? ⟨A.bt s,2,none⟩=some (zi (s:Int)):=hR.txn ht 2 rfl;have n1:IntKind.i64.wrap (1+(s:Int))=1+(s:Int):=by rw[IntKind.wrap_i64];omega
 have HL:=zH (store_i hR.drew (1+s) 0 (1+(s:Int)) 0 (by omega) rfl (by rw[hR.nw];omega) hcnt);have HG:=zG A.L w;have HK:Hid (∀ w',Rep A σ w'→Grow A.L w A.L w'→w'.cell? ⟨b0,0,none⟩=some (.pointer (some ⟨A.be,0,none⟩))∧w'.cell? ⟨A.be,2,none⟩=some (.pointer (some ⟨A.ba,0,none⟩))∧w'.cell? ⟨b1,0,none⟩=some (.pointer (some ⟨A.bt s,0,none⟩))∧w'.cell? ⟨A.bt s,2,none⟩=some (zi (s:Int))):=fun w' r g=>⟨(B0.grow g).cell,r.eng 2 rfl,(B1.grow g).cell,r.txn ht 2 rfl⟩
 have HB:Hid (∀ w1,Rep A (σ.put (1+s) 0) w1→Grow A.L w A.L w1→Calls Tryz.prog 141 #[.pointer (some ⟨A.be,0,none⟩),.pointer (some ⟨A.bc s,0,none⟩),.agg #[zi (r.e:Int),zi (r.value:Int),vp,zi (r.over:Int),zi (r.reason:Int)]] w1 (Ran A w1 s ((σ.put (1+s) 0).finish s r,none))∧w1.cell? ⟨b0,0,none⟩=some (.pointer (some ⟨A.be,0,none⟩))∧w1.cell? ⟨b2,0,none⟩=some (.pointer (some ⟨A.bc s,0,none⟩))∧w1.cell? ⟨b3,0,none⟩=some (zi (r.e:Int))∧w1.cell? ⟨b3,1,none⟩=some (zi (r.value:Int))∧w1.cell? ⟨b3,2,none⟩=some vp∧w1.cell? ⟨b3,3,none⟩=some (zi (r.over:Int))∧w1.cell? ⟨b3,4,none⟩=some (zi (r.reason:Int))):=by
  intro w1 q g;have fr:=FR.grow g;exact⟨finish_any q s c hc r va vn vc vp hvp hp,(B0.grow g).cell,(B2.grow g).cell,fr.cell 0 rfl,fr.cell 1 rfl,fr.cell 2 rfl,fr.cell 3 rfl,fr.cell 4 rfl⟩
 have hrun:σ.run s (.turns [] r)=((σ.put (1+s) 0).finish s r,none):=rfl;rw[hrun];clear hR ht hc hs hcnt B0 B1 B2 FR hp hps hrun;subst hvp;go_enter Tryz.func149,Tryz.ntmps149;go_wp2_with fail;refine wp_region_still_tail 9 (by kernel_rfl) (by kernel_rfl) ?_;simp only[zta,ztb,ztc,ztd]
 repeat still_step
 refine wpStill_nil ?_;change wpList _ _ _ _ _ w.drew;generalize w.drew=wd at*;go_wp2_with (first|(go_at_call 47;refine HL.out.mono ?_;rintro e w1 ⟨rfl,q1,q2⟩;have g1:=HG.out.trans q2;obtain⟨hf,d0,d2,k0,k1,k2,k3,k4⟩:=HB.out w1 q1 g1;have HQ:=zH (zA hf g1);clear q1 q2 g1 hf)|(go_at_call 141;refine HQ.out.1.mono ?_;rintro e w2 ⟨A2,v,rfl,p1,p2,p3,rfl⟩))
 trace_state
 go_ret;exact⟨A2,_,rfl,p1,HQ.out.2.trans p2,p3,rfl⟩
theorem k_turnsC (hR:Rep A σ w) (s:Nat) (c:Cal) (hc:σ.calls.getD s none=some c) (x:Trn) (l:List Trn) (r:Res) (hx:x.at_<σ.words.length) (hcnt:σ.count<4000000000000000000) (b0 b1 b2 b3 b4:Nat)
 (B0:ListBox A.L w b0 (x::l)) (B1:Box A.L w b1 (.pointer (some ⟨A.be,0,none⟩))) (B2:Box A.L w b2 (.pointer (some ⟨A.bt s,0,none⟩))) (B3:Box A.L w b3 (.pointer (some ⟨A.bc s,0,none⟩))) (B4:ResBox (kp A σ s) A.L w b4 r):
 Calls Tryz.prog 150 #[.pointer (some ⟨b0,0,none⟩),.pointer (some ⟨b1,0,none⟩),.pointer (some ⟨b2,0,none⟩),.pointer (some ⟨b3,0,none⟩),.pointer (some ⟨b4,0,none⟩)] w (Ran A w s (σ.run s (.turns (x::l) r))):=by
 obtain⟨vp,TR,FR,hp⟩:=B4;have hps:(kp A σ s).ps=c.r.pairs:=by show (σ.c s).r.pairs=_;rw[call_get hc]
 rw[hps] at hp;have hform:∃ a n cap,vp=.slice a n cap:=by
  rcases hp with ⟨h1,_⟩|⟨h1,_⟩
  · have hown:=hR.mem.all (.pairs s)
    rw[mem_pairs hc] at hown;obtain⟨a,cap,h2,_⟩:=Ow.own_form hown.1;exact⟨a,_,cap,h1.trans h2⟩
  · exact⟨none,0,0,h1⟩
 obtain⟨va,vn,vc,hvp⟩:=hform;obtain⟨lv,X0,R0⟩:=B0;obtain⟨a,n,cap,rfl,hlen,hcap,hmax,hrow⟩:=R0;rw[trnCs_length] at hlen;obtain rfl:n=l.length+1:=by simp at hlen;omega
 obtain⟨g,off,rfl,hlg,hltg,hcs⟩:=hrow.resolve_left (by omega);have c0:=X0.cell;have c1:=B1.cell;have c2:=B2.cell;have c3:=B3.cell;have e2:=hR.z2;have l0:w.cell? ⟨g,off,none⟩=some (zi (x.at_:Int)):=hcs 0 (by omega);have l1:w.cell? ⟨g,off+1,none⟩=some (zu (x.old:Int)):=hcs 1 (by omega);have l2:w.cell? ⟨g,off+2,none⟩=some (zu (x.new:Int)):=hcs 2 (by omega);obtain⟨r1,g1,f0⟩:=allocs1 hR #[zi (x.at_:Int),zu (x.old:Int),zu (x.new:Int)] 234;have y0:=f0.cell 0 (v:=zi (x.at_:Int)) rfl;have y1:=f0.cell 1 (v:=zu (x.old:Int)) rfl;have y2:=f0.cell 2 (v:=zu (x.new:Int)) rfl;have z1:=(B1.grow g1).cell;have ze:=r1.eng 2 (v:=.pointer (some ⟨A.ba,0,none⟩)) rfl;obtain⟨a',ha'⟩:∃ a',a'=if cap=1 then (some (⟨g,off,none⟩:Addr)) else some ⟨g,off+3,none⟩:=⟨_,rfl⟩
 have hsl:∀ w',(Instr.slice 232 (.slice (some ⟨g,off,none⟩) (l.length+1) cap) (some (zi 1)) none none).run Tryz.prog w'=.ok (.slice a' l.length (cap - 1)) w':=by
  intro w';have he:Tryz.prog.elem 232=234:=by kernel_rfl
  have hz:(sizeOf 234).run Tryz.prog w'=.ok 3 w':=by kernel_rfl
  rw[run_slice_l (P:=Tryz.prog) w' 232 (some ⟨g,off,none⟩) (l.length+1) cap (by kernel_rfl) .i64 1 (by decide) (by omega),he,hz,ha']
  by_cases h1:cap=1
  · simp[Result.andThen,sliced,h1]
  · simp[Result.andThen,sliced,h1,Addr.add]
 have HB : Hid (∀ σ' w2, Rep A σ' w2 → σ'.calls = σ.calls → Grow A.L w A.L w2 → w2.cell? ⟨b0, 0, none⟩ = some (.slice (some ⟨g, off, none⟩) (l.length + 1) cap) ∧ w2.cell? ⟨b1, 0, none⟩ = some (.pointer (some ⟨A.be, 0, none⟩)) ∧ w2.cell? ⟨b2, 0, none⟩ = some (.pointer (some ⟨A.bt s, 0, none⟩)) ∧ w2.cell? ⟨b3, 0, none⟩ = some (.pointer (some ⟨A.bc s, 0, none⟩)) ∧ w2.cell? ⟨b4, 0, none⟩ = some (zi (r.e : Int)) ∧ w2.cell? ⟨b4, 1, none⟩ = some (zi (r.value : Int)) ∧ w2.cell? ⟨b4, 2, none⟩ = some vp ∧ w2.cell? ⟨b4, 3, none⟩ = some (zi (r.over : Int)) ∧ w2.cell? ⟨b4, 4, none⟩ = some (zi (r.reason : Int)) ∧
     Calls Tryz.prog 128 #[.pointer (some ⟨A.be,0,none⟩),.pointer (some ⟨A.bt s,0,none⟩),.pointer (some ⟨A.bc s,0,none⟩),.slice a' l.length (cap - 1),.agg #[zi (r.e:Int),zi (r.value:Int),vp,zi (r.over:Int),zi (r.reason:Int)]] w2.drew (Tells A w2.drew s (σ',.turns l r))):=by
  intro σ' w2 q hcl gr;have fr:=FR.grow gr;have hrow':FRow A.L w2.drew 3 (.slice a' l.length (cap - 1)) (trnCs l):=by
   refine⟨_,_,_,rfl,trnCs_length l,by omega,by omega,?_⟩
   by_cases hc1:cap=1
   · exact .inl (by omega)
   refine .inr ⟨g,off+3,by rw[ha',if_neg hc1],hlg,Nat.lt_of_lt_of_le hltg gr.size,fun j hj=>?_⟩;rw[World.cell?_drew,World.cell?_of_block (w:=w) (a:=⟨g,off+3+j,none⟩) (gr.block g hltg hlg),show off+3+j=off+(3+j) by omega,hcs (3+j) (by omega)];simp[trnCs,Nat.add_comm 3 j]
  have hp':(vp=A.vpairs s∧r.pairs=(σ'.c s).r.pairs)∨(vp=.slice none 0 0∧r.pairs=[]):=by
   have e:σ'.c s=c:=by unfold St.c;rw[hcl,hc];rfl
   rw[e];exact hp
  exact⟨(X0.grow gr).cell,(B1.grow gr).cell,(B2.grow gr).cell,(B3.grow gr).cell,fr.cell 0 rfl,fr.cell 1 rfl,fr.cell 2 rfl,fr.cell 3 rfl,fr.cell 4 rfl,turns_any q.drew s l _ hrow' r vp hp'⟩
 clear ha';have HG:=zH (g1.trans (Grow.drew A.L (w.alloc (.cells #[zi (x.at_:Int),zu (x.old:Int),zu (x.new:Int)] 234))));have nl:¬ ((l.length:Int)+1≤0):=by omega
 have nl2:(0:Int)<(l.length:Int)+1:=by omega
 by_cases ho:x.old=0
 · have HL:=zH (store_any r1.drew x.at_ x.new hx hcnt)
   have hrun:σ.run s (.turns (x::l) r)=(σ.put x.at_ x.new,some (.turns l r)):=by simp only[St.run,if_pos ho]
   rw[hrun];have HB1:=zH (fun w2 q gr=>HB.out (σ.put x.at_ x.new) w2 q rfl gr);have d1:((x.old:Int)==0)=true:=by simpa using ho
   have d2:((x.old:Int)=0)=True:=by simpa using ho
   clear hR r1 g1 f0 hc hx hcnt X0 B1 B2 B3 FR hp hps hrun HB ho hlen hcap hmax hrow hcs c1 c2 c3 e2;generalize x.at_=xa at*;generalize x.old=xo at*;generalize x.new=xn at*;subst hvp;go_enter Tryz.func150,Tryz.ntmps150;go_wp2_with fail;generalize w.alloc _=w1 at*;refine wp_region_still_tail 8 (by kernel_rfl) (by kernel_rfl) ?_;simp only[zta,ztb,ztc,ztd]
   repeat still_step
   refine wpStill_nil ?_;change wpList _ _ _ _ _ w1.drew;generalize w1.drew=wd at*;go_wp2_with (go_at_call 47;refine HL.out.mono ?_;rintro e w2 ⟨rfl,q1,q2⟩;have gr:=HG.out.trans q2;obtain⟨d0,d1,d2,d3,k0,k1,k2,k3,k4,hf⟩:=HB1.out w2 q1 gr;have HQ:=zH (zA hf (gr.trans (Grow.drew _ _)));clear q1 q2 gr hf);refine wp_region_still_tail 6 (by kernel_rfl) (by kernel_rfl) ?_;simp only[zta,ztb,ztc,ztd]
   repeat still_step
   refine wpStill_nil ?_;change wpList _ _ _ _ _ w2.drew;generalize w2.drew=wd2 at*;go_wp2_with (go_at_call 128;refine HQ.out.1.mono ?_;rintro e w3 ⟨A2,v,rfl,p1,p2,p3,p4⟩);go_ret;exact⟨A2,v,rfl,p1,HQ.out.2.trans p2,p3,p4⟩
 · have HL:=zH (cas_any r1.drew x.at_ x.old x.new hx hcnt)
   have hrun:σ.run s (.turns (x::l) r)=(σ.cas x.at_ x.old x.new,some (.turns l r)):=by simp only[St.run,if_neg ho]
   rw[hrun];have HB1:=zH (fun w2 q gr=>HB.out (σ.cas x.at_ x.old x.new) w2 q (by unfold St.cas;split<;>rfl) gr);have d1:((x.old:Int)==0)=false:=by simpa using ho
   have d2:((x.old:Int)=0)=False:=by simpa using ho
   clear hR r1 g1 f0 hc hx hcnt X0 B1 B2 B3 FR hp hps hrun HB ho hlen hcap hmax hrow hcs c1 c2 c3 e2;generalize x.at_=xa at*;generalize x.old=xo at*;generalize x.new=xn at*;subst hvp;go_enter Tryz.func150,Tryz.ntmps150;go_wp2_with fail;generalize w.alloc _=w1 at*;refine wp_region_still_tail 10 (by kernel_rfl) (by kernel_rfl) ?_;simp only[zta,ztb,ztc,ztd]
   repeat still_step
   refine wpStill_nil ?_;change wpList _ _ _ _ _ w1.drew;generalize w1.drew=wd at*;go_wp2_with (go_at_call 45;refine HL.out.mono ?_;rintro e w2 ⟨rfl,q1,q2⟩;have gr:=HG.out.trans q2;obtain⟨d0,d1,d2,d3,k0,k1,k2,k3,k4,hf⟩:=HB1.out w2 q1 gr;have HQ:=zH (zA hf (gr.trans (Grow.drew _ _)));clear q1 q2 gr hf);refine wp_region_still_tail 6 (by kernel_rfl) (by kernel_rfl) ?_;simp only[zta,ztb,ztc,ztd]
   repeat still_step
   refine wpStill_nil ?_;change wpList _ _ _ _ _ w2.drew;generalize w2.drew=wd2 at*;go_wp2_with (go_at_call 128;refine HQ.out.1.mono ?_;rintro e w3 ⟨A2,v,rfl,p1,p2,p3,p4⟩);go_ret;exact⟨A2,v,rfl,p1,HQ.out.2.trans p2,p3,p4⟩
theorem trnCs_append (a b:List Trn):trnCs (a++b)=trnCs a++trnCs b:=by simp[trnCs]
theorem infoT:(Tryz.prog.info? 234).map (fun i=>(i.zero,i.size,i.bytes))=some (some (.agg #[zi 0,zu 0,zu 0]),3,24):=by kernel_rfl
theorem wp_turn {ops:Array Oper} {rest:List Oper} {o:Oper} {a:Act} {Q:Exit→Act→World→Prop} (w:World) (hgd:o.guard=none) (s x:Operand)
 (ho:o.op=.call {callee:=.builtin .append,args:=#[s,x],argTypes:=#[232,232]})
 (w0:World) (hb:Below w0.heap.size w0 w) (av:Option Addr) (m cap:Nat) (xs:List Value) (hs:a.eval s=.slice av m cap) (hown:w.ownsRow w0.heap.size 234 3 (.slice av m cap) m xs) (hm:m<4000000)
 (t0 t1 t2:Int) (hx:a.eval x=.slice (some ⟨w.heap.size,0,none⟩) 1 1)
 (h:∀ av' cap' w',w'.ownsRow w0.heap.size 234 3 (.slice av' (m+1) cap') (m+1) (xs++[zi t0,zu t1,zu t2])→Below w0.heap.size w0 w'→wpList Tryz.prog ops Q rest (a.put o.dst (.slice av' (m+1) cap')) w'):
 wpList Tryz.prog ops Q (o::rest) a (w.alloc (.cells #[zi t0,zu t1,zu t2] 234)):=by
 obtain⟨ii,hii,hz0,hz1,hz2⟩:=info_parts infoT;have hw:=hb.size;have hown':(w.alloc (.cells #[zi t0,zu t1,zu t2] 234)).ownsRow w0.heap.size 234 3 (.slice av m cap) m xs:=own_same hown fun g hg=>Below.heap_alloc _ _ _ (hown.lt g hg).2
 refine Ow.wpList_append_to _ hgd s x 232 ho w0.heap.size 234 ii _ 3 24 Tryz.underlying232 hii hz0 hz1 hz2 rfl (by decide) (.slice av m cap) m xs hs hown' ⟨w.heap.size,0,none⟩ 1 1 (by omega) [zi t0,zu t1,zu t2] hx rfl (fun j u hu=>Ow.new_row w [zi t0,zu t1,zu t2] _ _ rfl j u hu) (by intro u hu;simp at hu;rcases hu with rfl|rfl|rfl<;>rfl) (by unfold maxLen;omega) (by omega) (by simp;omega) ?_;intro v' w' q1 q2 q3;obtain⟨av',cap',rfl,_⟩:=Ow.own_form q1;exact h av' cap' w' q1 ((hb.alloc hw _).grown q2 (by simp;omega) (fun g hg=>(hown.lt g hg).1))
theorem frow_of_own {L:Lab} {w0 w:World} {av:Option Addr} {m cap:Nat} {xs:List Value} (h:w.ownsRow w0.heap.size 234 3 (.slice av m cap) m xs) (hL:∀ b,w0.heap.size≤b→L b=none):FRow L w 3 (.slice av m cap) xs:=by
 obtain⟨a,c,e,h1,h2,h3⟩:=Ow.own_form h;obtain⟨rfl,rfl⟩:av=a∧cap=c:=by simpa using e
 refine⟨av,m,cap,rfl,h.1,h1,by unfold maxLen;omega,?_⟩
 rcases h.2 with ⟨h0,hn⟩|⟨g,cap',cur,hv,hb,hg,hnc,hcm,hcs,htake⟩
 · exact .inl (by first|exact h0|omega)
 · obtain⟨rfl,rfl⟩:av=some ⟨g,0,none⟩∧cap=cap':=by simpa using hv
   refine .inr ⟨g,0,rfl,hL g (h.lt g rfl).1,(h.lt g rfl).2,fun j hj=>?_⟩;rw[Nat.zero_add];exact h.cellAt j hj
theorem turns_at (hR:Rep A σ w) (s:Nat) (l:List Trn) (lv:Value) (hl:FRow A.L w 3 lv (trnCs l)) (r:Res) (re rv ro rr:Int) (vp:Value) (hcs:resCs r vp=[zi re,zi rv,vp,zi ro,zi rr]) (hp:(vp=A.vpairs s∧r.pairs=(σ.c s).r.pairs)∨(vp=.slice none 0 0∧r.pairs=[])):
 Calls Tryz.prog 128 #[.pointer (some ⟨A.be,0,none⟩),.pointer (some ⟨A.bt s,0,none⟩),.pointer (some ⟨A.bc s,0,none⟩),lv,.agg #[zi re,zi rv,vp,zi ro,zi rr]] w (Tells A w s (σ,.turns l r)):=by
 have h:=turns_any hR s l lv hl r vp hp;simp only[resCs,List.cons.injEq,Value.int.injEq,true_and,and_true] at hcs;obtain⟨e1,e2,e3,e4⟩:=hcs;rw[e1,e2,e3,e4] at h;exact h
def KeysOk (σ:St) (t:Txn):Prop:=∀ key∈t.keys,∃ x,t.cell key=some x∧(x.own=0∨VL σ x.own)∧(x.old=0∨VL σ x.old)
def cTurn (t:Txn) (key:Nat):List Trn:=
 (if ((t.cell key).getD default).own≠0 then ⟨wslot ((t.cell key).getD default).own 0,0,t.end_⟩::(if ((t.cell key).getD default).there then [] else [⟨wslot ((t.cell key).getD default).own 1,0,t.end_⟩]) else [])
 ++(if ((t.cell key).getD default).old≠0 then [⟨wslot ((t.cell key).getD default).old 1,0,t.end_⟩] else [])
theorem commitTurns_eq (σ:St) (t:Txn):commitTurns σ t=t.keys.flatMap (cTurn t):=rfl
theorem flat_snoc (f:Nat→List Trn) (l:List Nat) (k:Nat) (h:k<l.length):(l.take (k+1)).flatMap f=(l.take k).flatMap f++f (l.getD k 0):=by
 rw[List.take_succ_eq_append_getElem h,List.flatMap_append];simp[List.getD,h]
theorem cTurn_length (t:Txn) (key:Nat):(cTurn t key).length≤3:=by
 unfold cTurn
 repeat' split
 all_goals simp
theorem flat_length (f:Nat→List Trn) (hf:∀ k,(f k).length≤3) (l:List Nat):(l.flatMap f).length≤3*l.length:=by
 induction l with
 |nil=>simp
 |cons x l ih=>simp only[List.flatMap_cons,List.length_append,List.length_cons];have:=hf x;omega
theorem help_txns (σ:St) (x:Nat):(σ.help x).txns=σ.txns:=by unfold St.help St.cas;split<;>rfl
theorem help_calls (σ:St) (x:Nat):(σ.help x).calls=σ.calls:=by unfold St.help St.cas;split<;>rfl
theorem k_helpJ (hR:Rep A σ w) (s:Nat) (t:Txn) (ht:σ.txns.getD s none=some t) (hen:t.end_<281474976710656) (hid:t.id≤2000) (hrl:t.reads.length<1000000) (hcnt:σ.count<4000000000000000000) (b0 b1 b2:Nat)
 (B0:Box A.L w b0 (.pointer (some ⟨A.be,0,none⟩))) (B1:Box A.L w b1 (.pointer (some ⟨A.bt s,0,none⟩))) (B2:Box A.L w b2 (.pointer (some ⟨A.bc s,0,none⟩))):
 Calls Tryz.prog 121 #[.pointer (some ⟨b0,0,none⟩),.pointer (some ⟨b1,0,none⟩),.pointer (some ⟨b2,0,none⟩)] w (Ran A w s (σ.run s .helpJ)):=by
 have c0:=B0.cell;have c1:=B1.cell;have t4:w.cell? ⟨A.bt s,4,none⟩=some (zu (t.end_:Int)):=hR.txn ht 4 rfl;have t0:w.cell? ⟨A.bt s,0,none⟩=some (zi (t.id:Int)):=hR.txn ht 0 rfl;have HC:=zH (flip (clock_any t.end_ t.id hen (by omega) w.drew));have hlo:lastOf (clockW t.end_ t.id)=t.id:=by unfold lastOf clockW;omega
 have HL:=zH (help_any hR.drew (clockW t.end_ t.id) (by unfold clockW;omega) (by omega) hcnt);have HG:=zG A.L w;have hrun:σ.run s .helpJ=(σ.help (clockW t.end_ t.id),some (judgeK t 0)):=by
  have e:(σ.help (clockW t.end_ t.id)).t s=t:=by unfold St.t;rw[help_txns,ht];rfl
  simp only[St.run,txn_get ht,e]
 rw[hrun];have HB:Hid (∀ w1,Rep A (σ.help (clockW t.end_ t.id)) w1→Grow A.L w A.L w1→Calls Tryz.prog 122 #[.pointer (some ⟨A.be,0,none⟩),.pointer (some ⟨A.bt s,0,none⟩),.pointer (some ⟨A.bc s,0,none⟩),zi 0] w1 (Tells A w1 s (σ.help (clockW t.end_ t.id),judgeK t 0))∧w1.cell? ⟨b0,0,none⟩=some (.pointer (some ⟨A.be,0,none⟩))∧w1.cell? ⟨b1,0,none⟩=some (.pointer (some ⟨A.bt s,0,none⟩))∧w1.cell? ⟨b2,0,none⟩=some (.pointer (some ⟨A.bc s,0,none⟩))):=
  fun w1 q g=>⟨judge_any q s t (by rw[help_txns];exact ht) 0 (Nat.zero_le _) hrl,(B0.grow g).cell,(B1.grow g).cell,(B2.grow g).cell⟩
 clear hR ht hen hid hrl hcnt B0 B1 B2 hrun hlo;generalize σ.help (clockW t.end_ t.id)=σ1 at*;generalize judgeK t 0=k at*;go_enter Tryz.func121,Tryz.ntmps121;go_wp2_with fail;refine wp_region_still_tail 10 (by kernel_rfl) (by kernel_rfl) ?_;simp only[zta,ztb,ztc,ztd]
 repeat still_step
 still_call HC.out
 refine wpStill_nil ?_;change wpList _ _ _ _ _ w.drew;generalize w.drew=wd at*;go_wp2_with (first|(go_at_call 44;refine HL.out.mono ?_;rintro e w1 ⟨rfl,q1,q2⟩;have g1:=HG.out.trans q2;obtain⟨hf,d0,d1,d2⟩:=HB.out w1 q1 g1;have HQ:=zH (zA hf g1);clear q1 q2 g1 hf)|(go_at_call 122;refine HQ.out.1.mono ?_;rintro e w2 ⟨A2,v,rfl,p1,p2,p3,p4⟩));go_ret;exact⟨A2,v,rfl,p1,HQ.out.2.trans p2,p3,p4⟩
set_option maxHeartbeats 16000000 in
theorem k_commit (hR:Rep A σ w) (s:Nat) (t:Txn) (ht:σ.txns.getD s none=some t) (hm:A.mt s=0) (hen:t.end_≤1099511627776) (hid:t.id≤2000) (hkl:t.keys.length<1000000) (hK:KeysOk σ t) (htl:σ.tale.length<1000000) (hcnt:σ.count<4000000000000000000) (b0 b1 b2:Nat)
 (B0:Box A.L w b0 (.pointer (some ⟨A.be,0,none⟩))) (B1:Box A.L w b1 (.pointer (some ⟨A.bt s,0,none⟩))) (B2:Box A.L w b2 (.pointer (some ⟨A.bc s,0,none⟩))):
 Calls Tryz.prog 184 #[.pointer (some ⟨b0,0,none⟩),.pointer (some ⟨b1,0,none⟩),.pointer (some ⟨b2,0,none⟩)] w (Ran A w s (σ.run s .commit)):=by
 have c0:=B0.cell;have c1:=B1.cell;have e2:=hR.z2;have t4:w.cell? ⟨A.bt s,4,none⟩=some (zu (t.end_:Int)):=hR.txn ht 4 rfl;have t0:w.cell? ⟨A.bt s,0,none⟩=some (zi (t.id:Int)):=hR.txn ht 0 rfl;have HP:=zH (place_still hR.drew t.id (by omega));have HA:=zH (pack_still 3 (t.end_:Int) 3 t.end_ rfl rfl (by omega) (by omega) w.drew);have HL:=zH (store_any hR.drew (σ.place t.id) (pack 3 t.end_) (by rw[hR.nw];unfold St.place;omega) hcnt);have HG:=zG A.L w;obtain⟨σ2,hσ2⟩:∃ σ2,σ2=(σ.put (σ.place t.id) (pack 3 t.end_)).tellEnd s {kind:=5,t:=t.id}:=⟨_,rfl⟩
 have hrun:σ.run s .commit=(σ2,some (.turns (t.keys.flatMap (cTurn t)) {over:=3})):=by
  rw[hσ2,←commitTurns_eq (σ.put (σ.place t.id) (pack 3 t.end_)) t];simp only[St.run,txn_get ht];rfl
 rw[hrun];obtain⟨t2,ht2,hk2,hc2,hen2⟩:∃ t2,σ2.txns.getD s none=some t2∧t2.keys=t.keys∧t2.cells=t.cells∧t2.end_=t.end_:=by
  have ht1:(σ.put (σ.place t.id) (pack 3 t.end_)).txns.getD s none=some t:=ht;rw[hσ2];unfold St.tellEnd;rw[txn_get ht1]
  by_cases ho:t.over=true
  · rw[if_pos ho];exact⟨t,ht1,rfl,rfl,rfl⟩
  · rw[if_neg ho]
    refine⟨{t with over:=true},?_,rfl,rfl,rfl⟩;show ((σ.put (σ.place t.id) (pack 3 t.end_)).setT s {t with over:=true}).txns.getD s none=_;rw[getT_set (lt_of_txn ht1),if_pos rfl]
 have hsl2:σ2.slots=σ.slots:=by rw[hσ2];unfold St.tellEnd;split<;>rfl
 have HB1:Hid (∀ w1,Rep A (σ.put (σ.place t.id) (pack 3 t.end_)) w1→Grow A.L w A.L w1→Calls Tryz.prog 125 #[.pointer (some ⟨A.be,0,none⟩),.pointer (some ⟨A.bt s,0,none⟩),.agg #[zi 5,zi (t.id:Int),zu 0,zi 0,zi 0,zi 0,zi 0,zi 0,zi 0,.slice none 0 0,zi 0,zi 0]] w1.drew (Told A w1.drew s σ2)∧w1.cell? ⟨b0,0,none⟩=some (.pointer (some ⟨A.be,0,none⟩))∧w1.cell? ⟨b1,0,none⟩=some (.pointer (some ⟨A.bt s,0,none⟩))∧w1.cell? ⟨A.bt s,0,none⟩=some (zi (t.id:Int))):=by
  intro w1 q g;rw[hσ2];exact⟨tell_any q.drew s t ht hm _ 5 t.id 0 rfl rfl htl,(B0.grow g).cell,(B1.grow g).cell,q.txn ht 0 rfl⟩
 have HB2 : Hid (∀ A2 w2, Rep A2 σ2 w2 → Grow A.L w A2.L w2 → Stay A A2 s → A2.bx = A.bx → ∀ w3, Below w2.heap.size w2 w3 → w3.cell? ⟨b0, 0, none⟩ = some (.pointer (some ⟨A.be, 0, none⟩)) ∧ w3.cell? ⟨b1, 0, none⟩ = some (.pointer (some ⟨A.bt s, 0, none⟩)) ∧ w3.cell? ⟨b2, 0, none⟩ = some (.pointer (some ⟨A.bc s, 0, none⟩)) ∧ w3.cell? ⟨A.bt s, 4, none⟩ = some (zu (t.end_ : Int)) ∧ w3.cell? ⟨A.bt s, 7, none⟩ = some (.map (some (A.bm s))) ∧ w3.cell? ⟨A.bt s, 6, none⟩ = some (A2.vkeys s) ∧
     (∃ av cap,A2.vkeys s=.slice av t.keys.length cap)∧(∀ k,k<t.keys.length→∀ g cap,A2.vkeys s=.slice (some ⟨g,0,none⟩) t.keys.length cap→w3.cell? ⟨g,k,none⟩=some (zi (t.keys.getD k 0:Int)))∧(∀ k,k<t.keys.length→∃ g cap,A2.vkeys s=.slice (some ⟨g,0,none⟩) t.keys.length cap)∧
     (∀ key x,t.cell key=some x→(Instr.lookup 116 (.map (some (A.bm s))) (zi (key:Int)) false).run Tryz.prog w3=.ok (.pointer (some ⟨A.bx s key,0,none⟩)) w3∧w3.cell? ⟨A.bx s key,0,none⟩=some (zu (x.own:Int))∧w3.cell? ⟨A.bx s key,1,none⟩=some (zu (x.old:Int))∧w3.cell? ⟨A.bx s key,2,none⟩=some (.bool x.there))):=by
  intro A2 w2 q g st hbx w3 hb;have r3:=q.below hb;have gg:=g.trans (Grow.below (L:=A2.L) hb);have a4:=r3.txn ht2 4 (v:=zu (t2.end_:Int)) rfl;have a7:=r3.txn ht2 7 (v:=.map (some (A2.bm s))) rfl;have a6:=r3.txn ht2 6 (v:=A2.vkeys s) rfl;rw[st.bt] at a4 a7 a6;rw[st.bm] at a7;rw[hen2] at a4;have hown:=r3.mem.all (.keys s);rw[mem_keys ht2,hk2] at hown;obtain⟨av,cap,hv,_⟩:=Ow.own_form hown.1;have hget:∀ k,k<t.keys.length→(t.keys.map i64)[k]? =some (i64 (t.keys.getD k 0)):=fun k hk=>by simp[List.getD,hk]
  refine⟨(B0.grow gg).cell,(B1.grow gg).cell,(B2.grow gg).cell,a4,a7,a6,⟨av,cap,hv⟩,fun k hk g' cap' hv'=>?_,fun k hk=>?_,fun key x hx=>?_⟩
  · obtain⟨g1,cap1,hv1,hc1⟩:=own_at hown.1 (hget k hk)
    rw[hv'] at hv1;obtain⟨rfl,_⟩:g'=g1∧cap'=cap1:=by simpa using hv1
    exact hc1
  · obtain⟨g1,cap1,hv1,hc1⟩:=own_at hown.1 (hget k hk)
    exact⟨g1,cap1,hv1⟩
  · have hx2:t2.cell key=some x:=by unfold Txn.cell at hx ⊢;rw[hc2];exact hx
    have hl:=lookup_run r3 ht2 key;have hpx:A2.px s t2 key=.pointer (some ⟨A2.bx s key,0,none⟩):=by unfold Book.px;rw[hx2];rfl
    rw[hpx,hbx,st.bm] at hl;obtain⟨x0,x1,x2⟩:=r3.cel ht2 hx2;rw[hbx] at x0 x1 x2;exact⟨hl,x0,x1,x2⟩
 have HT:=zH (Word.time_yes (t.end_:Int) (by omega) (by omega));have HTU:Hid (∀ A2 w2,Rep A2 σ2 w2→Stay A A2 s→∀ w3 av m cap,Below w2.heap.size w2 w3→w3.ownsRow w2.heap.size 234 3 (.slice av m cap) m (trnCs (t.keys.flatMap (cTurn t)))→Calls Tryz.prog 128 #[.pointer (some ⟨A.be,0,none⟩),.pointer (some ⟨A.bt s,0,none⟩),.pointer (some ⟨A.bc s,0,none⟩),.slice av m cap,.agg #[zi 0,zi 0,.slice none 0 0,zi 3,zi 0]] w3 (Tells A2 w3 s (σ2,.turns (t.keys.flatMap (cTurn t)) {over:=3}))):=by
  intro A2 w2 q st w3 av m cap hb ho;have h:=turns_at (q.below hb) s (t.keys.flatMap (cTurn t)) (.slice av m cap) (frow_of_own ho q.mem.fresh) {over:=3} 0 0 3 0 (.slice none 0 0) rfl (.inr ⟨rfl,rfl⟩);rw[st.be,st.bt,st.bc] at h;exact h
 have HS:Hid (∀ (l n:Nat),VL σ l→n≤2→∀ w,Calls Tryz.prog 85 #[zu (l:Int),zi (n:Int)] w fun e w'=>e=.returned (zi ((wslot l n:Nat):Int))∧w=w'):=fun l n hv hn w'=>slot_any l n hv.lo (by have:=hv.hi;have:=hR.sl;omega) hv.u hn w'
 have HKK:=zH (zA hK hkl);clear hR ht hm hen hid hkl hK htl hcnt B0 B1 B2 hrun hσ2 ht2 hk2 hc2 hen2 hsl2;go_enter Tryz.func184,Tryz.ntmps184;go_wp2_with fail;refine wp_region_still_tail 15 (by kernel_rfl) (by kernel_rfl) ?_;simp only[zta,ztb,ztc,ztd]
 repeat still_step
 still_call HP.out
 repeat still_step
 still_call HA.out
 refine wpStill_nil ?_;change wpList _ _ _ _ _ w.drew;generalize w.drew=wd at*;go_wp2_with (go_at_call 47;refine HL.out.mono ?_;rintro e w1 ⟨rfl,q1,q2⟩;have g1:=HG.out.trans q2;obtain⟨hf,d0,d1,d2⟩:=HB1.out w1 q1 g1;have HQ:=zH (zA hf (g1.trans (Grow.drew _ _)));clear q1 q2 g1 hf);refine wp_region_still_tail 7 (by kernel_rfl) (by kernel_rfl) ?_;simp only[zta,ztb,ztc,ztd]
 repeat still_step
 refine wpStill_nil ?_;change wpList _ _ _ _ _ w1.drew;generalize w1.drew=wd1 at*;go_wp2_with (first|(go_at_call 125;refine HQ.out.1.mono ?_;rintro e w2 ⟨rfl,A2,q1,q2,q3,q4,q5⟩;obtain⟨y0,y1,y2,y4,y7,y6,⟨kv,kc,hkv⟩,_,_,_⟩:=HB2.out A2 w2 q1 (HQ.out.2.trans q2) q3 q4 w2 (Below.refl _ _);rw[hkv] at y6;have H2:=zH (zA q1 (zA (HQ.out.2.trans q2) (zA q3 (zA q4 hkv))));clear q1 q2 q3 q4 q5 hkv)|(go_at_call 185;refine (HT.out _).mono ?_;rintro e w3 ⟨rfl,rfl⟩))
 go_loopw [6,47] (fun l i wr=>∃ k:Nat,k≤t.keys.length∧i=zi (k:Int)∧Below w2.heap.size w2 wr∧∃ av cap,l=.slice av ((t.keys.take k).flatMap (cTurn t)).length cap∧wr.ownsRow w2.heap.size 234 3 l ((t.keys.take k).flatMap (cTurn t)).length (trnCs ((t.keys.take k).flatMap (cTurn t)))) (fun _ i _=>t.keys.length - (intOf i).toNat)
 case atStart=>
  exact⟨0,Nat.zero_le _,rfl,Below.refl _ _,none,0,rfl,rfl,.inl ⟨rfl,rfl⟩⟩
 case round=>
  obtain⟨k,hk,rfl,hb,av,cap,rfl,hown⟩:=hrel;have hm0:=flat_length (cTurn t) (cTurn_length t) (t.keys.take k)
  by_cases hlt:k<t.keys.length
  · obtain⟨x0,x1,x2,x4,x7,x6,_,hget,hform,hcel⟩:=HB2.out A2 w2 H2.out.1 H2.out.2.1 H2.out.2.2.1 H2.out.2.2.2.1 wr hb
    obtain⟨g,cap',hv⟩:=hform k hlt;obtain⟨rfl,rfl⟩:kv=some ⟨g,0,none⟩∧kc=cap':=by have:=H2.out.2.2.2.2.symm.trans hv;simpa using this
    have hke:=hget k hlt g kc hv;obtain⟨x,hx,ho1,ho2⟩:=HKK.out.1 (t.keys.getD k 0) (by simp[List.getD,hlt]);obtain⟨hlk,ce0,ce1,ce2⟩:=hcel _ x hx;have hfs:=flat_snoc (cTurn t) t.keys k hlt;have hcT:cTurn t (t.keys.getD k 0)=(if x.own≠0 then ⟨wslot x.own 0,0,t.end_⟩::(if x.there then [] else [⟨wslot x.own 1,0,t.end_⟩]) else [])++(if x.old≠0 then [⟨wslot x.old 1,0,t.end_⟩] else []):=by unfold cTurn;rw[hx];rfl
    rw[hcT] at hfs;have hlen:(t.keys.take k).length≤1000000:=by have:=HKK.out.2;simp;omega
    have HC:Hid (∀ w',Below w2.heap.size w2 w'→w'.cell? ⟨A.bx s (t.keys.getD k 0),0,none⟩=some (zu (x.own:Int))∧w'.cell? ⟨A.bx s (t.keys.getD k 0),1,none⟩=some (zu (x.old:Int))∧w'.cell? ⟨A.bx s (t.keys.getD k 0),2,none⟩=some (.bool x.there)):=fun w' hb'=>by
     obtain⟨_,_,_,_,_,_,_,_,_,hcel'⟩:=HB2.out A2 w2 H2.out.1 H2.out.2.1 H2.out.2.2.1 H2.out.2.2.2.1 w' hb';exact (hcel' _ x hx).2
    have HO:=zH (zA ho1 (zA ho2 (zA hlt hfs)));have nb1:(k:Int)<(t.keys.length:Int):=by omega
    have n1:IntKind.i64.wrap ((k:Int)+1)=(k:Int)+1:=by rw[IntKind.wrap_i64];have:=HKK.out.2;omega
    clear x0 x2 y0 y1 y2 y4 y7 y6 hget hform hcel hv ho1 ho2 hcT hx;generalize t.keys.getD k 0=key at*;generalize hxs:trnCs ((t.keys.take k).flatMap (cTurn t))=xs at*;have HXS:=zH hxs;clear hxs;generalize hmm:((t.keys.take k).flatMap (cTurn t)).length=m at*;have HM:=zH hmm;clear hmm hfs;have hm1:m<3000001:=by omega
    clear hm0 hlen hk;generalize A.bx s key=bx at*
    by_cases ho:x.own≠0
    · have ho':x.own≠0:=ho
      have d1:((x.own:Int)==0)=false:=by simp;omega
      have d2:((x.own:Int) !=0)=true:=by simp;omega
      have d3:((x.own:Int)=0)=False:=by simp;omega
      clear ho'
      cases ht:x.there with
      |true=>
       by_cases hl:x.old≠0
       · have e1:((x.old:Int)==0)=false:=by simp;omega
         have e2:((x.old:Int) !=0)=true:=by simp;omega
         have e3:((x.old:Int)=0)=False:=by simp;omega
         have hfs:=HO.out.2.2.2;simp only[if_pos ho,if_pos hl,ht,if_true,if_false,Bool.false_eq_true,List.nil_append,List.append_nil,List.cons_append] at hfs;have HFS:=zH hfs;clear hfs;obtain⟨ws,W0,W1,W2⟩:∃ ws:Int→Int→Int,ws (x.own:Int) 0=((wslot x.own 0:Nat):Int)∧ws (x.own:Int) 1=((wslot x.own 1:Nat):Int)∧ws (x.old:Int) 1=((wslot x.old 1:Nat):Int):=⟨fun a b=>if b=0 then ((wslot a.toNat 0:Nat):Int) else ((wslot a.toNat 1:Nat):Int),by simp,by simp,by simp⟩
         have SL:Hid (∀ a b:Int,((a=(x.own:Int)∧b=0)∨(a=(x.own:Int)∧b=1)∨(a=(x.old:Int)∧b=1))→∀ w,Calls Tryz.prog 85 #[zu a,zi b] w fun e w'=>e=.returned (zi (ws a b))∧w=w'):=by
          rintro a b (⟨rfl,rfl⟩|⟨rfl,rfl⟩|⟨rfl,rfl⟩) w''
          · rw[W0];exact (HS.out x.own 0 (HO.out.1.resolve_left ho) (by omega) w'')
          · rw[W1];exact (HS.out x.own 1 (HO.out.1.resolve_left ho) (by omega) w'')
          · rw[W2];exact (HS.out x.old 1 (HO.out.2.1.resolve_left hl) (by omega) w'')
         have HW:=zH (zA W0 (zA W1 W2));clear W0 W1 W2;clear ho hl;rw[ht] at ce2 HC;clear ht;go_wp2_with (first|(go_at_call 85;refine (SL.out _ _ (by first|exact .inl ⟨rfl,rfl⟩|exact .inr (.inl ⟨rfl,rfl⟩)|exact .inr (.inr ⟨rfl,rfl⟩)) _).mono ?_;rintro e w' ⟨rfl,rfl⟩)|(refine wp_turn _ rfl _ _ rfl w2 (by assumption) _ _ _ _ rfl (by assumption) (by omega) _ _ _ rfl ?_;intro avl capl wl ql pl;obtain⟨ce0,ce1,ce2⟩:=HC.out wl pl))
         go_roundw
         case rel=>
          simp only[HW.out.1,HW.out.2.1,HW.out.2.2] at ql;refine⟨k+1,by have:=HO.out.2.2.1;omega,rfl,pl,avl,capl,?_,?_⟩
          · first|(rw[HFS.out,List.length_append,HM.out];done)|(rw[HFS.out,List.length_append,HM.out];rfl)
          · rw[HFS.out,List.length_append,HM.out,trnCs_append,HXS.out];simp only[List.append_assoc,List.cons_append,List.nil_append] at ql;exact ql
         case measure=>have:=HO.out.2.2.1;simp[intOf];omega
       · have e1:((x.old:Int)==0)=true:=by simp;omega
         have e2:((x.old:Int) !=0)=false:=by simp;omega
         have e3:((x.old:Int)=0)=True:=by simp;omega
         have hfs:=HO.out.2.2.2;simp only[if_pos ho,if_neg hl,ht,if_true,if_false,Bool.false_eq_true,List.nil_append,List.append_nil,List.cons_append] at hfs;have HFS:=zH hfs;clear hfs;obtain⟨ws,W0,W1,W2⟩:∃ ws:Int→Int→Int,ws (x.own:Int) 0=((wslot x.own 0:Nat):Int)∧ws (x.own:Int) 1=((wslot x.own 1:Nat):Int)∧ws (x.old:Int) 1=((wslot x.old 1:Nat):Int):=⟨fun a b=>if b=0 then ((wslot a.toNat 0:Nat):Int) else ((wslot a.toNat 1:Nat):Int),by simp,by simp,by simp⟩
         have SL:Hid (∀ a b:Int,((a=(x.own:Int)∧b=0)∨(a=(x.own:Int)∧b=1)∨False)→∀ w,Calls Tryz.prog 85 #[zu a,zi b] w fun e w'=>e=.returned (zi (ws a b))∧w=w'):=by
          rintro a b (⟨rfl,rfl⟩|⟨rfl,rfl⟩|h) w''
          · rw[W0];exact (HS.out x.own 0 (HO.out.1.resolve_left ho) (by omega) w'')
          · rw[W1];exact (HS.out x.own 1 (HO.out.1.resolve_left ho) (by omega) w'')
          · exact h.elim
         have HW:=zH (zA W0 (zA W1 W2));clear W0 W1 W2;clear ho hl;rw[ht] at ce2 HC;clear ht;go_wp2_with (first|(go_at_call 85;refine (SL.out _ _ (by first|exact .inl ⟨rfl,rfl⟩|exact .inr (.inl ⟨rfl,rfl⟩)|exact .inr (.inr ⟨rfl,rfl⟩)) _).mono ?_;rintro e w' ⟨rfl,rfl⟩)|(refine wp_turn _ rfl _ _ rfl w2 (by assumption) _ _ _ _ rfl (by assumption) (by omega) _ _ _ rfl ?_;intro avl capl wl ql pl;obtain⟨ce0,ce1,ce2⟩:=HC.out wl pl))
         go_roundw
         case rel=>
          simp only[HW.out.1,HW.out.2.1,HW.out.2.2] at ql;refine⟨k+1,by have:=HO.out.2.2.1;omega,rfl,pl,avl,capl,?_,?_⟩
          · first|(rw[HFS.out,List.length_append,HM.out];done)|(rw[HFS.out,List.length_append,HM.out];rfl)
          · rw[HFS.out,List.length_append,HM.out,trnCs_append,HXS.out];exact ql
         case measure=>have:=HO.out.2.2.1;simp[intOf];omega
          |false=>
       by_cases hl:x.old≠0
       · have e1:((x.old:Int)==0)=false:=by simp;omega
         have e2:((x.old:Int) !=0)=true:=by simp;omega
         have e3:((x.old:Int)=0)=False:=by simp;omega
         have hfs:=HO.out.2.2.2;simp only[if_pos ho,if_pos hl,ht,if_true,if_false,Bool.false_eq_true,List.nil_append,List.append_nil,List.cons_append] at hfs;have HFS:=zH hfs;clear hfs;obtain⟨ws,W0,W1,W2⟩:∃ ws:Int→Int→Int,ws (x.own:Int) 0=((wslot x.own 0:Nat):Int)∧ws (x.own:Int) 1=((wslot x.own 1:Nat):Int)∧ws (x.old:Int) 1=((wslot x.old 1:Nat):Int):=⟨fun a b=>if b=0 then ((wslot a.toNat 0:Nat):Int) else ((wslot a.toNat 1:Nat):Int),by simp,by simp,by simp⟩
         have SL:Hid (∀ a b:Int,((a=(x.own:Int)∧b=0)∨(a=(x.own:Int)∧b=1)∨(a=(x.old:Int)∧b=1))→∀ w,Calls Tryz.prog 85 #[zu a,zi b] w fun e w'=>e=.returned (zi (ws a b))∧w=w'):=by
          rintro a b (⟨rfl,rfl⟩|⟨rfl,rfl⟩|⟨rfl,rfl⟩) w''
          · rw[W0];exact (HS.out x.own 0 (HO.out.1.resolve_left ho) (by omega) w'')
          · rw[W1];exact (HS.out x.own 1 (HO.out.1.resolve_left ho) (by omega) w'')
          · rw[W2];exact (HS.out x.old 1 (HO.out.2.1.resolve_left hl) (by omega) w'')
         have HW:=zH (zA W0 (zA W1 W2));clear W0 W1 W2;clear ho hl;rw[ht] at ce2 HC;clear ht;go_wp2_with (first|(go_at_call 85;refine (SL.out _ _ (by first|exact .inl ⟨rfl,rfl⟩|exact .inr (.inl ⟨rfl,rfl⟩)|exact .inr (.inr ⟨rfl,rfl⟩)) _).mono ?_;rintro e w' ⟨rfl,rfl⟩)|(refine wp_turn _ rfl _ _ rfl w2 (by assumption) _ _ _ _ rfl (by assumption) (by omega) _ _ _ rfl ?_;intro avl capl wl ql pl;obtain⟨ce0,ce1,ce2⟩:=HC.out wl pl))
         go_roundw
         case rel=>
          simp only[HW.out.1,HW.out.2.1,HW.out.2.2] at ql;refine⟨k+1,by have:=HO.out.2.2.1;omega,rfl,pl,avl,capl,?_,?_⟩
          · first|(rw[HFS.out,List.length_append,HM.out];done)|(rw[HFS.out,List.length_append,HM.out];rfl)
          · rw[HFS.out,List.length_append,HM.out,trnCs_append,HXS.out];simp only[List.append_assoc,List.cons_append,List.nil_append] at ql;exact ql
         case measure=>have:=HO.out.2.2.1;simp[intOf];omega
       · have e1:((x.old:Int)==0)=true:=by simp;omega
         have e2:((x.old:Int) !=0)=false:=by simp;omega
         have e3:((x.old:Int)=0)=True:=by simp;omega
         have hfs:=HO.out.2.2.2;simp only[if_pos ho,if_neg hl,ht,if_true,if_false,Bool.false_eq_true,List.nil_append,List.append_nil,List.cons_append] at hfs;have HFS:=zH hfs;clear hfs;obtain⟨ws,W0,W1,W2⟩:∃ ws:Int→Int→Int,ws (x.own:Int) 0=((wslot x.own 0:Nat):Int)∧ws (x.own:Int) 1=((wslot x.own 1:Nat):Int)∧ws (x.old:Int) 1=((wslot x.old 1:Nat):Int):=⟨fun a b=>if b=0 then ((wslot a.toNat 0:Nat):Int) else ((wslot a.toNat 1:Nat):Int),by simp,by simp,by simp⟩
         have SL:Hid (∀ a b:Int,((a=(x.own:Int)∧b=0)∨(a=(x.own:Int)∧b=1)∨False)→∀ w,Calls Tryz.prog 85 #[zu a,zi b] w fun e w'=>e=.returned (zi (ws a b))∧w=w'):=by
          rintro a b (⟨rfl,rfl⟩|⟨rfl,rfl⟩|h) w''
          · rw[W0];exact (HS.out x.own 0 (HO.out.1.resolve_left ho) (by omega) w'')
          · rw[W1];exact (HS.out x.own 1 (HO.out.1.resolve_left ho) (by omega) w'')
          · exact h.elim
         have HW:=zH (zA W0 (zA W1 W2));clear W0 W1 W2;clear ho hl;rw[ht] at ce2 HC;clear ht;go_wp2_with (first|(go_at_call 85;refine (SL.out _ _ (by first|exact .inl ⟨rfl,rfl⟩|exact .inr (.inl ⟨rfl,rfl⟩)|exact .inr (.inr ⟨rfl,rfl⟩)) _).mono ?_;rintro e w' ⟨rfl,rfl⟩)|(refine wp_turn _ rfl _ _ rfl w2 (by assumption) _ _ _ _ rfl (by assumption) (by omega) _ _ _ rfl ?_;intro avl capl wl ql pl;obtain⟨ce0,ce1,ce2⟩:=HC.out wl pl))
         go_roundw
         case rel=>
          simp only[HW.out.1,HW.out.2.1,HW.out.2.2] at ql;refine⟨k+1,by have:=HO.out.2.2.1;omega,rfl,pl,avl,capl,?_,?_⟩
          · first|(rw[HFS.out,List.length_append,HM.out];done)|(rw[HFS.out,List.length_append,HM.out];rfl)
          · rw[HFS.out,List.length_append,HM.out,trnCs_append,HXS.out];simp only[List.append_assoc,List.cons_append,List.nil_append] at ql;exact ql
         case measure=>have:=HO.out.2.2.1;simp[intOf];omega
    · have d1:((x.own:Int)==0)=true:=by simp;omega
      have d2:((x.own:Int) !=0)=false:=by simp;omega
      have d3:((x.own:Int)=0)=True:=by simp;omega
      by_cases hl:x.old≠0
      · have e1:((x.old:Int)==0)=false:=by simp;omega
        have e2:((x.old:Int) !=0)=true:=by simp;omega
        have e3:((x.old:Int)=0)=False:=by simp;omega
        have hfs:=HO.out.2.2.2;simp only[if_neg ho,if_pos hl,List.nil_append,List.append_nil,List.cons_append] at hfs;have HFS:=zH hfs;clear hfs;obtain⟨ws,W0,W1,W2⟩:∃ ws:Int→Int→Int,ws (x.own:Int) 0=((wslot x.own 0:Nat):Int)∧ws (x.own:Int) 1=((wslot x.own 1:Nat):Int)∧ws (x.old:Int) 1=((wslot x.old 1:Nat):Int):=⟨fun a b=>if b=0 then ((wslot a.toNat 0:Nat):Int) else ((wslot a.toNat 1:Nat):Int),by simp,by simp,by simp⟩
        have SL:Hid (∀ a b:Int,(False∨False∨(a=(x.old:Int)∧b=1))→∀ w,Calls Tryz.prog 85 #[zu a,zi b] w fun e w'=>e=.returned (zi (ws a b))∧w=w'):=by
         rintro a b (h|h|⟨rfl,rfl⟩) w''
         · exact h.elim
         · exact h.elim
         · rw[W2];exact (HS.out x.old 1 (HO.out.2.1.resolve_left hl) (by omega) w'')
        have HW:=zH (zA W0 (zA W1 W2));clear W0 W1 W2;clear ho hl;go_wp2_with (first|(go_at_call 85;refine (SL.out _ _ (by first|exact .inl ⟨rfl,rfl⟩|exact .inr (.inl ⟨rfl,rfl⟩)|exact .inr (.inr ⟨rfl,rfl⟩)) _).mono ?_;rintro e w' ⟨rfl,rfl⟩)|(refine wp_turn _ rfl _ _ rfl w2 (by assumption) _ _ _ _ rfl (by assumption) (by omega) _ _ _ rfl ?_;intro avl capl wl ql pl;obtain⟨ce0,ce1,ce2⟩:=HC.out wl pl))
        go_roundw
        case rel=>
         simp only[HW.out.1,HW.out.2.1,HW.out.2.2] at ql;refine⟨k+1,by have:=HO.out.2.2.1;omega,rfl,pl,avl,capl,?_,?_⟩
         · first|(rw[HFS.out,List.length_append,HM.out];done)|(rw[HFS.out,List.length_append,HM.out];rfl)
         · rw[HFS.out,List.length_append,HM.out,trnCs_append,HXS.out];exact ql
        case measure=>have:=HO.out.2.2.1;simp[intOf];omega
      · have e1:((x.old:Int)==0)=true:=by simp;omega
        have e2:((x.old:Int) !=0)=false:=by simp;omega
        have e3:((x.old:Int)=0)=True:=by simp;omega
        have hfs:=HO.out.2.2.2;simp only[if_neg ho,if_neg hl,List.nil_append,List.append_nil,List.cons_append] at hfs;have HFS:=zH hfs;clear hfs;clear ho hl;go_wp2_with fail
        go_roundw
        case rel=>
         refine⟨k+1,by have:=HO.out.2.2.1;omega,rfl,hb,av,cap,?_,?_⟩
         · first|(rw[HFS.out,HM.out];done)|(rw[HFS.out,HM.out];rfl)
         · rw[HFS.out,HM.out,HXS.out];exact hown
        case measure=>have:=HO.out.2.2.1;simp[intOf];omega
  · obtain rfl:k=t.keys.length:=by omega
    rw[List.take_length] at hown ⊢;obtain⟨x0,x1,x2,x4,x7,x6,_⟩:=HB2.out A2 w2 H2.out.1 H2.out.2.1 H2.out.2.2.1 H2.out.2.2.2.1 wr hb;have HE:=zH (zA (HTU.out A2 w2 H2.out.1 H2.out.2.2.1 wr av _ cap hb hown) (Grow.below (L:=A2.L) hb));clear hown hb hlt hk hm0;generalize (t.keys.flatMap (cTurn t)).length=m at*;go_wp2_with (go_at_call 128;refine HE.out.1.mono ?_;rintro e w4 ⟨A3,v,rfl,p1,p2,p3,p4⟩);go_ret;exact⟨A3,v,rfl,p1,(H2.out.2.1.trans HE.out.2).trans p2,H2.out.2.2.1.trans p3,p4⟩
def aTurn (t:Txn) (key:Nat):List Trn:=if ((t.cell key).getD default).old≠0 then [⟨wslot ((t.cell key).getD default).old 1,mine t,ever⟩] else []
theorem abortTurns_eq (σ:St) (t:Txn):abortTurns σ t=t.keys.flatMap (aTurn t):=rfl
theorem aTurn_length (t:Txn) (key:Nat):(aTurn t key).length≤3:=by
 unfold aTurn
 split
 all_goals simp
theorem wp_turn2 {o:Oper} {a:Act} {K:Act→World→Prop} {Q:Exit→Act→World→Prop} (w W:World) (s x:Operand)
 (ho:o.op=.call {callee:=.builtin .append,args:=#[s,x],argTypes:=#[232,232]})
 (w0:World) (hb:Below w0.heap.size w0 w) (av:Option Addr) (m cap:Nat) (xs:List Value) (hs:a.eval s=.slice av m cap) (hown:w.ownsRow w0.heap.size 234 3 (.slice av m cap) m xs) (hm:m<4000000)
 (t0 t1 t2:Int) (hW:W=(w.alloc (.cells #[zi t0,zu t1,zu t2] 234)).drew) (hx:a.eval x=.slice (some ⟨w.heap.size,0,none⟩) 1 1)
 (h:∀ av' cap' w',w'.ownsRow w0.heap.size 234 3 (.slice av' (m+1) cap') (m+1) (xs++[zi t0,zu t1,zu t2])→Below w0.heap.size w0 w'→K (a.put o.dst (.slice av' (m+1) cap')) w'):
 o.wp Tryz.prog a W K Q:=by
 subst hW;obtain⟨ii,hii,hz0,hz1,hz2⟩:=info_parts infoT;have hw:=hb.size;have hown':(w.alloc (.cells #[zi t0,zu t1,zu t2] 234)).drew.ownsRow w0.heap.size 234 3 (.slice av m cap) m xs:=own_same hown fun g hg=>Below.heap_alloc _ _ _ (hown.lt g hg).2
 refine Ow.wp_append_to _ s x 232 ho w0.heap.size 234 ii _ 3 24 Tryz.underlying232 hii hz0 hz1 hz2 rfl (by decide) (.slice av m cap) m xs hs hown' ⟨w.heap.size,0,none⟩ 1 1 (by omega) [zi t0,zu t1,zu t2] hx rfl (fun j u hu=>Ow.new_row w [zi t0,zu t1,zu t2] _ _ rfl j u hu) (by intro u hu;simp at hu;rcases hu with rfl|rfl|rfl<;>rfl) (by unfold maxLen;omega) (by omega) (by simp[World.drew];omega) ?_;intro v' w' q1 q2 q3;obtain⟨av',cap',rfl,_⟩:=Ow.own_form q1;exact h av' cap' w' q1 (((hb.alloc hw _).drew).grown q2 (by simp[World.drew];omega) (fun g hg=>(hown.lt g hg).1))
set_option maxHeartbeats 16000000 in
theorem k_abort (hR:Rep A σ w) (s:Nat) (t:Txn) (ht:σ.txns.getD s none=some t) (hm:A.mt s=0) (er reason:Nat) (hen:t.end_≤1099511627776) (hi1:1≤t.id) (hid:t.id≤2000) (hkl:t.keys.length<1000000) (hK:KeysOk σ t) (htl:σ.tale.length<1000000) (hcnt:σ.count<4000000000000000000) (b0 b1 b2 b3 b4:Nat)
 (B0:Box A.L w b0 (.pointer (some ⟨A.be,0,none⟩))) (B1:Box A.L w b1 (.pointer (some ⟨A.bt s,0,none⟩))) (B2:Box A.L w b2 (zi (reason:Int))) (B3:Box A.L w b3 (.pointer (some ⟨A.bc s,0,none⟩))) (B4:Box A.L w b4 (zi (er:Int))):
 Calls Tryz.prog 124 #[.pointer (some ⟨b0,0,none⟩),.pointer (some ⟨b1,0,none⟩),.pointer (some ⟨b2,0,none⟩),.pointer (some ⟨b3,0,none⟩),.pointer (some ⟨b4,0,none⟩)] w (Ran A w s (σ.run s (.abort er reason))):=by
 have c0:=B0.cell;have c1:=B1.cell;have e2:=hR.z2;have t4:w.cell? ⟨A.bt s,4,none⟩=some (zu (t.end_:Int)):=hR.txn ht 4 rfl;have t0:w.cell? ⟨A.bt s,0,none⟩=some (zi (t.id:Int)):=hR.txn ht 0 rfl;have HP:=zH (place_still hR.drew t.id (by omega));have HA:=zH (pack_still 4 (t.end_:Int) 4 t.end_ rfl rfl (by omega) (by omega) w.drew);have HL:=zH (store_any hR.drew (σ.place t.id) (pack 4 t.end_) (by rw[hR.nw];unfold St.place;omega) hcnt);have HG:=zG A.L w;obtain⟨σ2,hσ2⟩:∃ σ2,σ2=(σ.put (σ.place t.id) (pack 4 t.end_)).tellEnd s {kind:=6,t:=t.id,res:={reason:=reason}}:=⟨_,rfl⟩
 have hrun:σ.run s (.abort er reason)=(σ2,some (.turns (t.keys.flatMap (aTurn t)) {e:=er,over:=4,reason:=reason})):=by
  rw[hσ2,←abortTurns_eq (σ.put (σ.place t.id) (pack 4 t.end_)) t];simp only[St.run,txn_get ht];rfl
 rw[hrun];obtain⟨t2,ht2,hk2,hc2,hen2⟩:∃ t2,σ2.txns.getD s none=some t2∧t2.keys=t.keys∧t2.cells=t.cells∧t2.id=t.id:=by
  have ht1:(σ.put (σ.place t.id) (pack 4 t.end_)).txns.getD s none=some t:=ht;rw[hσ2];unfold St.tellEnd;rw[txn_get ht1]
  by_cases ho:t.over=true
  · rw[if_pos ho];exact⟨t,ht1,rfl,rfl,rfl⟩
  · rw[if_neg ho]
    refine⟨{t with over:=true},?_,rfl,rfl,rfl⟩;show ((σ.put (σ.place t.id) (pack 4 t.end_)).setT s {t with over:=true}).txns.getD s none=_;rw[getT_set (lt_of_txn ht1),if_pos rfl]
 have HB1:Hid (∀ w1,Rep A (σ.put (σ.place t.id) (pack 4 t.end_)) w1→Grow A.L w A.L w1→Calls Tryz.prog 125 #[.pointer (some ⟨A.be,0,none⟩),.pointer (some ⟨A.bt s,0,none⟩),.agg #[zi 6,zi (t.id:Int),zu 0,zi 0,zi 0,zi 0,zi 0,zi 0,zi 0,.slice none 0 0,zi 0,zi (reason:Int)]] w1.drew (Told A w1.drew s σ2)∧w1.cell? ⟨b0,0,none⟩=some (.pointer (some ⟨A.be,0,none⟩))∧w1.cell? ⟨b1,0,none⟩=some (.pointer (some ⟨A.bt s,0,none⟩))∧w1.cell? ⟨b2,0,none⟩=some (zi (reason:Int))∧w1.cell? ⟨A.bt s,0,none⟩=some (zi (t.id:Int))):=by
  intro w1 q g;rw[hσ2];exact⟨tell_any q.drew s t ht hm _ 6 t.id reason rfl rfl htl,(B0.grow g).cell,(B1.grow g).cell,(B2.grow g).cell,q.txn ht 0 rfl⟩
 have HB2 : Hid (∀ A2 w2, Rep A2 σ2 w2 → Grow A.L w A2.L w2 → Stay A A2 s → A2.bx = A.bx → ∀ w3, Below w2.heap.size w2 w3 → w3.cell? ⟨b0, 0, none⟩ = some (.pointer (some ⟨A.be, 0, none⟩)) ∧ w3.cell? ⟨b1, 0, none⟩ = some (.pointer (some ⟨A.bt s, 0, none⟩)) ∧ w3.cell? ⟨b2, 0, none⟩ = some (zi (reason : Int)) ∧ w3.cell? ⟨b3, 0, none⟩ = some (.pointer (some ⟨A.bc s, 0, none⟩)) ∧ w3.cell? ⟨b4, 0, none⟩ = some (zi (er : Int)) ∧ w3.cell? ⟨A.bt s, 7, none⟩ = some (.map (some (A.bm s))) ∧ w3.cell? ⟨A.bt s, 6, none⟩ = some (A2.vkeys s) ∧
     (∃ av cap,A2.vkeys s=.slice av t.keys.length cap)∧(∀ k,k<t.keys.length→∀ g cap,A2.vkeys s=.slice (some ⟨g,0,none⟩) t.keys.length cap→w3.cell? ⟨g,k,none⟩=some (zi (t.keys.getD k 0:Int)))∧(∀ k,k<t.keys.length→∃ g cap,A2.vkeys s=.slice (some ⟨g,0,none⟩) t.keys.length cap)∧
     (∀ key x,t.cell key=some x→(Instr.lookup 116 (.map (some (A.bm s))) (zi (key:Int)) false).run Tryz.prog w3=.ok (.pointer (some ⟨A.bx s key,0,none⟩)) w3∧w3.cell? ⟨A.bx s key,1,none⟩=some (zu (x.old:Int)))∧
     Calls Tryz.prog 126 #[.pointer (some ⟨A.bt s,0,none⟩)] w3.drew (fun e w'=>e=.returned (zu ((mine t:Nat):Int))∧w'=w3.drew)):=by
  intro A2 w2 q g st hbx w3 hb;have r3:=q.below hb;have gg:=g.trans (Grow.below (L:=A2.L) hb);have a7:=r3.txn ht2 7 (v:=.map (some (A2.bm s))) rfl;have a6:=r3.txn ht2 6 (v:=A2.vkeys s) rfl;rw[st.bt] at a7 a6;rw[st.bm] at a7;have hown:=r3.mem.all (.keys s);rw[mem_keys ht2,hk2] at hown;obtain⟨av,cap,hv,_⟩:=Ow.own_form hown.1;have hget:∀ k,k<t.keys.length→(t.keys.map i64)[k]? =some (i64 (t.keys.getD k 0)):=fun k hk=>by simp[List.getD,hk]
  have hmi:=flip (mine_any r3.drew s t2 ht2 (by omega) (by omega));rw[st.bt,show mine t2=mine t by unfold mine;rw[hen2]] at hmi;refine⟨(B0.grow gg).cell,(B1.grow gg).cell,(B2.grow gg).cell,(B3.grow gg).cell,(B4.grow gg).cell,a7,a6,⟨av,cap,hv⟩,fun k hk g' cap' hv'=>?_,fun k hk=>?_,fun key x hx=>?_,hmi⟩
  · obtain⟨g1,cap1,hv1,hc1⟩:=own_at hown.1 (hget k hk)
    rw[hv'] at hv1;obtain⟨rfl,_⟩:g'=g1∧cap'=cap1:=by simpa using hv1
    exact hc1
  · obtain⟨g1,cap1,hv1,hc1⟩:=own_at hown.1 (hget k hk)
    exact⟨g1,cap1,hv1⟩
  · have hx2:t2.cell key=some x:=by unfold Txn.cell at hx ⊢;rw[hc2];exact hx
    have hl:=lookup_run r3 ht2 key;have hpx:A2.px s t2 key=.pointer (some ⟨A2.bx s key,0,none⟩):=by unfold Book.px;rw[hx2];rfl
    rw[hpx,hbx,st.bm] at hl;obtain⟨x0,x1,x2⟩:=r3.cel ht2 hx2;rw[hbx] at x1;exact⟨hl,x1⟩
 have HF:Hid (∀ w',Calls Tryz.prog 127 #[] w' fun e w1=>e=.returned (zu ((ever:Nat):Int))∧w1=w'):=fun w'=>flip (Word.forever_any w')
 have HTU:Hid (∀ A2 w2,Rep A2 σ2 w2→Stay A A2 s→∀ w3 av m cap,Below w2.heap.size w2 w3→w3.ownsRow w2.heap.size 234 3 (.slice av m cap) m (trnCs (t.keys.flatMap (aTurn t)))→Calls Tryz.prog 128 #[.pointer (some ⟨A.be,0,none⟩),.pointer (some ⟨A.bt s,0,none⟩),.pointer (some ⟨A.bc s,0,none⟩),.slice av m cap,.agg #[zi (er:Int),zi 0,.slice none 0 0,zi 4,zi (reason:Int)]] w3 (Tells A2 w3 s (σ2,.turns (t.keys.flatMap (aTurn t)) {e:=er,over:=4,reason:=reason}))):=by
  intro A2 w2 q st w3 av m cap hb ho;have h:=turns_at (q.below hb) s (t.keys.flatMap (aTurn t)) (.slice av m cap) (frow_of_own ho q.mem.fresh) {e:=er,over:=4,reason:=reason} er 0 4 reason (.slice none 0 0) rfl (.inr ⟨rfl,rfl⟩);rw[st.be,st.bt,st.bc] at h;exact h
 have HS:Hid (∀ (l:Nat),VL σ l→∀ w,Calls Tryz.prog 85 #[zu (l:Int),zi 1] w fun e w'=>e=.returned (zi ((wslot l 1:Nat):Int))∧w'=w):=fun l hv w'=>flip (slot_at l 1 1 rfl hv.lo (by have:=hv.hi;have:=hR.sl;omega) hv.u (by omega) w')
 have HKK:=zH (zA hK hkl);clear hR ht hm hen hid hi1 hkl hK htl hcnt B0 B1 B2 B3 B4 hrun hσ2 ht2 hk2 hc2 hen2;go_enter Tryz.func124,Tryz.ntmps124;go_wp2_with fail;refine wp_region_still_tail 15 (by kernel_rfl) (by kernel_rfl) ?_;simp only[zta,ztb,ztc,ztd]
 repeat still_step
 still_call HP.out
 repeat still_step
 still_call HA.out
 refine wpStill_nil ?_;change wpList _ _ _ _ _ w.drew;generalize w.drew=wd at*;go_wp2_with (go_at_call 47;refine HL.out.mono ?_;rintro e w1 ⟨rfl,q1,q2⟩;have g1:=HG.out.trans q2;obtain⟨hf,d0,d1,d2,d3⟩:=HB1.out w1 q1 g1;have HQ:=zH (zA hf (g1.trans (Grow.drew _ _)));clear q1 q2 g1 hf);refine wp_region_still_tail 9 (by kernel_rfl) (by kernel_rfl) ?_;simp only[zta,ztb,ztc,ztd]
 repeat still_step
 refine wpStill_nil ?_;change wpList _ _ _ _ _ w1.drew;generalize w1.drew=wd1 at*;go_wp2_with (first|(go_at_call 125;refine HQ.out.1.mono ?_;rintro e w2 ⟨rfl,A2,q1,q2,q3,q4,q5⟩;obtain⟨y0,y1,y2,y3,y4,y7,y6,⟨kv,kc,hkv⟩,_,_,_,_⟩:=HB2.out A2 w2 q1 (HQ.out.2.trans q2) q3 q4 w2 (Below.refl _ _);rw[hkv] at y6;have H2:=zH (zA q1 (zA (HQ.out.2.trans q2) (zA q3 (zA q4 hkv))));clear q1 q2 q3 q4 q5 hkv))
 go_loopw [6,41] (fun l i wr=>∃ k:Nat,k≤t.keys.length∧i=zi (k:Int)∧Below w2.heap.size w2 wr∧∃ av cap,l=.slice av ((t.keys.take k).flatMap (aTurn t)).length cap∧wr.ownsRow w2.heap.size 234 3 l ((t.keys.take k).flatMap (aTurn t)).length (trnCs ((t.keys.take k).flatMap (aTurn t)))) (fun _ i _=>t.keys.length - (intOf i).toNat)
 case atStart=>
  exact⟨0,Nat.zero_le _,rfl,Below.refl _ _,none,0,rfl,rfl,.inl ⟨rfl,rfl⟩⟩
 case round=>
  obtain⟨k,hk,rfl,hb,av,cap,rfl,hown⟩:=hrel;have hm0:=flat_length (aTurn t) (aTurn_length t) (t.keys.take k)
  by_cases hlt:k<t.keys.length
  · obtain⟨x0,x1,x2,x3,x4,x7,x6,_,hget,hform,hcel,hmi⟩:=HB2.out A2 w2 H2.out.1 H2.out.2.1 H2.out.2.2.1 H2.out.2.2.2.1 wr hb
    obtain⟨g,cap',hv⟩:=hform k hlt;obtain⟨rfl,rfl⟩:kv=some ⟨g,0,none⟩∧kc=cap':=by have:=H2.out.2.2.2.2.symm.trans hv;simpa using this
    have hke:=hget k hlt g kc hv;obtain⟨x,hx,ho1,ho2⟩:=HKK.out.1 (t.keys.getD k 0) (by simp[List.getD,hlt]);obtain⟨hlk,ce1⟩:=hcel _ x hx;have hfs:=flat_snoc (aTurn t) t.keys k hlt;have hcT:aTurn t (t.keys.getD k 0)=(if x.old≠0 then [⟨wslot x.old 1,mine t,ever⟩] else []):=by unfold aTurn;rw[hx];rfl
    rw[hcT] at hfs;have hlen:(t.keys.take k).length≤1000000:=by have:=HKK.out.2;simp;omega
    have HM:=zH hmi;have HO:=zH (zA ho2 (zA hlt hfs));have nb1:(k:Int)<(t.keys.length:Int):=by omega
    have n1:IntKind.i64.wrap ((k:Int)+1)=(k:Int)+1:=by rw[IntKind.wrap_i64];have:=HKK.out.2;omega
    clear x0 x2 x3 x4 y0 y1 y2 y3 y4 y7 y6 hget hform hcel hv ho1 ho2 hcT hx hmi;generalize t.keys.getD k 0=key at*;generalize hxs:trnCs ((t.keys.take k).flatMap (aTurn t))=xs at*;have HXS:=zH hxs;clear hxs;generalize hmm:((t.keys.take k).flatMap (aTurn t)).length=m at*;have HMM:=zH hmm;clear hmm hfs;have hm1:m<3000001:=by omega
    clear hm0 hlen hk;generalize A.bx s key=bx at*;generalize mine t=mt at*
    by_cases hl:x.old≠0
    · have hl':x.old≠0:=hl
      obtain⟨e1,e2,e3,e4,e5⟩:=zeF (x:=x.old) (c:=0) (ci:=0) (by omega);have HS1:=zH (fun w'=>HS.out x.old (HO.out.1.resolve_left hl) w');have hfs:=HO.out.2.2;simp only[if_pos hl] at hfs;have HFS:=zH hfs;have HOW:=zH (zA hown hb);clear hfs hl hl' hown hb;generalize wslot x.old 1=ws1 at*;go_wp2_with fail
      go_region_law (first|(refine wp_turn2 wr _ _ _ rfl w2 HOW.out.2 av m cap xs rfl HOW.out.1 (by omega) (ws1:Int) (mt:Int) ((ever:Nat):Int) rfl rfl ?_;intro avl capl wl ql pl;have HQL:=zH (zA ql pl);clear ql pl)|(go_simp;go_at_call 85;refine (HS1.out _).mono ?_;rintro e w' ⟨rfl,rfl⟩)|(go_simp;go_at_call 126;refine HM.out.mono ?_;rintro e w' ⟨rfl,rfl⟩)|(go_simp;go_at_call 127;refine (HF.out _).mono ?_;rintro e w' ⟨rfl,rfl⟩))
      all_goals
       go_wp2_with fail
       go_roundw
       case rel=>
        refine⟨k+1,by have:=HO.out.2.1;omega,rfl,HQL.out.2,avl,capl,?_,?_⟩
        · rw[HFS.out,List.length_append,HMM.out];rfl
        · rw[HFS.out,List.length_append,HMM.out,trnCs_append,HXS.out];exact HQL.out.1
       case measure=>have:=HO.out.2.1;simp[intOf];omega
    · have ho0:x.old=0:=by omega
      obtain⟨e1,e2,e3,e4,e5⟩:=zeT (x:=x.old) (c:=0) (ci:=0) (by omega);have hfs:=HO.out.2.2;simp only[if_neg hl,List.append_nil] at hfs;have HFS:=zH hfs;clear hfs hl ho0;go_wp2_with fail
      go_roundw
      case rel=>exact⟨k+1,by have:=HO.out.2.1;omega,rfl,hb,av,cap,by rw[HFS.out,HMM.out],by rw[HFS.out,HMM.out,HXS.out];exact hown⟩
      case measure=>have:=HO.out.2.1;simp[intOf];omega
  · obtain rfl:k=t.keys.length:=by omega
    rw[List.take_length] at hown ⊢;obtain⟨x0,x1,x2,x3,x4,x7,x6,_⟩:=HB2.out A2 w2 H2.out.1 H2.out.2.1 H2.out.2.2.1 H2.out.2.2.2.1 wr hb;have HE:=zH (zA (HTU.out A2 w2 H2.out.1 H2.out.2.2.1 wr av _ cap hb hown) (Grow.below (L:=A2.L) hb));clear hown hb hlt hk hm0;generalize (t.keys.flatMap (aTurn t)).length=m at*;go_wp2_with (go_at_call 128;refine HE.out.1.mono ?_;rintro e w4 ⟨A3,v,rfl,p1,p2,p3,p4⟩);go_ret;exact⟨A3,v,rfl,p1,(H2.out.2.1.trans HE.out.2).trans p2,H2.out.2.2.1.trans p3,p4⟩
theorem garb_any (b x low:Nat) (hx:x<18446744073709551616) (w:World):Calls Tryz.prog 199 #[zu (b:Int),zu (x:Int),zu (low:Int)] w fun e w'=>e=.returned (.bool (garbage x low))∧Below w.heap.size w w':=by
 have HR:=zH (rd_any x hx);unfold garbage;generalize (rd x).1=k at*;generalize (rd x).2=n at*;have hk1:((k:Int)=1)=(k=1):=by simp;omega
 by_cases h1:k=1
 · have f1:((k:Int)=1)=True:=by simp;omega
   have f2:((k:Int)==1)=true:=by simp;omega
   have f3:(k==1)=true:=by simp;omega
   by_cases h2:1≤n
   · have g1:((1:Int)≤(n:Int))=True:=by simp;omega
     have g2:decide ((1:Int)≤(n:Int))=true:=by simp;omega
     have g3:decide (1≤n)=true:=by simp;omega
     by_cases h3:n≤low
     · have k1:((n:Int)≤(low:Int))=True:=by simp;omega
       have k2:decide ((n:Int)≤(low:Int))=true:=by simp;omega
       have k3:decide (n≤low)=true:=by simp;omega
       rw[f3,g3,k3];clear h1 h2 h3 hk1 hx;go_enter Tryz.func199,Tryz.ntmps199;go_wp2_with (go_at_call 108;refine (HR.out _).mono ?_;rintro e w1 ⟨rfl,hb⟩;have HB:=zH hb;clear hb);go_ret;exact⟨rfl,HB.out.alloc HB.out.size _⟩
     · have k1:((n:Int)≤(low:Int))=False:=by simp;omega
       have k2:decide ((n:Int)≤(low:Int))=false:=by simp;omega
       have k3:decide (n≤low)=false:=by simp;omega
       rw[f3,g3,k3];clear h1 h2 h3 hk1 hx;go_enter Tryz.func199,Tryz.ntmps199;go_wp2_with (go_at_call 108;refine (HR.out _).mono ?_;rintro e w1 ⟨rfl,hb⟩;have HB:=zH hb;clear hb);go_ret;exact⟨rfl,HB.out.alloc HB.out.size _⟩
   · have g1:((1:Int)≤(n:Int))=False:=by simp;omega
     have g2:decide ((1:Int)≤(n:Int))=false:=by simp;omega
     have g3:decide (1≤n)=false:=by simp;omega
     rw[f3,g3];clear h1 h2 hk1 hx;go_enter Tryz.func199,Tryz.ntmps199;go_wp2_with (go_at_call 108;refine (HR.out _).mono ?_;rintro e w1 ⟨rfl,hb⟩;have HB:=zH hb;clear hb);go_ret;exact⟨rfl,HB.out.alloc HB.out.size _⟩
 · have f1:((k:Int)=1)=False:=by simp;omega
   have f2:((k:Int)==1)=false:=by simp;omega
   have f3:(k==1)=false:=by simp;omega
   rw[f3];clear h1 hk1 hx;go_enter Tryz.func199,Tryz.ntmps199;go_wp2_with (go_at_call 108;refine (HR.out _).mono ?_;rintro e w1 ⟨rfl,hb⟩;have HB:=zH hb;clear hb);go_ret;exact⟨rfl,HB.out.alloc HB.out.size _⟩
theorem sweep_countD (hR:Rep A σ w) (cb dl:Nat) (hd:σ.count=cb+dl) (hc:σ.count<4000000000000000000) (hlk:σ.looks<1000000000000000000) (hdl:dl<1000000) (b0 b1:Nat) (B0:Box A.L w b0 (.pointer (some ⟨A.be,0,none⟩))) (B1:Box A.L w b1 (zi (cb:Int))):
 CallsD Tryz.prog 72 #[.pointer (some ⟨b0,0,none⟩),.pointer (some ⟨b1,0,none⟩)] .returning w fun e u w'=>e=.returned (.tuple #[])∧u=.returning∧Rep A {σ with looks:=σ.looks+dl} w'∧Grow A.L w A.L w':=by
 have c0:=B0.cell;have c1:=B1.cell;have e2:=hR.z2;have e23:w.cell? ⟨A.be,23,none⟩=some (zi (σ.looks:Int)):=hR.eng 23 rfl;have n1:IntKind.i64.wrap (((cb+dl:Nat):Int) - (cb:Int))=(dl:Int):=by rw[IntKind.wrap_i64];omega
 have n2:IntKind.i64.wrap ((σ.looks:Int)+(dl:Int))=((σ.looks+dl:Nat):Int):=by rw[IntKind.wrap_i64];omega
 have HC:=zH ((count_any hR.drew hc).mono (fun e w9 h=>(⟨h.1,h.2.symm⟩:e=_∧w9=w.drew)));rw[hd] at HC;have HL:=zH (hR.drew.looksSet (σ.looks+dl));have HR:=zH hR;clear hR hd hc hlk hdl B0 B1;generalize ((cb+dl:Nat):Int)=c2 at*;generalize hlz:((σ.looks+dl:Nat):Int)=lz at*;refine callsD_of_wpS Tryz.func72 rfl fun c₀ cs hu=>?_
 refine wpS_of_wp ?_;change Code.wp _ _ _ {tmps:=#[.pointer (some ⟨b0,0,none⟩),.pointer (some ⟨b1,0,none⟩),undef,undef,undef,undef,undef,undef,undef,undef,undef,undef,undef,undef,undef,undef],defers:=[]} w;have HC0:=zH hu;clear hu;generalize hQ:(fun (e:Exit) (a':Act) (w':World)=>bodyPostS _ _ _ _ _ e a' _ w')=Q;have HQ:=zH hQ;clear hQ;go_wp2_with fail;refine wp_region_still_tail 14 (by kernel_rfl) (by kernel_rfl) ?_;simp only[zta,ztb,ztc,ztd]
 repeat still_step
 still_call HC.out
 repeat still_step
 refine wpStill_nil ?_;change wpList _ _ _ _ _ w.drew;have y23:w.drew.cell? ⟨A.be,23,none⟩=some (zi (σ.looks:Int)):=e23;have z23:w.drew.frozen? ⟨A.be,23,none⟩=false:=HR.out.engF 23;have HG:=zH (Grow.drew A.L w);generalize w.drew=wd at*;go_wp2_with fail;rw[←HQ.out];have hu:=HC0.out;have hr:=zA HL.out.1 (HG.out.trans HL.out.2)
 cases c₀
 simp_all[bodyPostS,results,Tryz.results72]
end Go.Proofs.YthicolbbmjfkfaaGreat.Em
