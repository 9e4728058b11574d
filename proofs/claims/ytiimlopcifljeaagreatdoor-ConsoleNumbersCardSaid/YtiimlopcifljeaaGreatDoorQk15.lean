import Derived.Test.YtiimlopcifljeaaGreatDoorQk9
import Derived.Test.YtiimlopcifljeaaGreatDoorQk10
namespace Go.Proofs.YtiimlopcifljeaaGreatDoor.Em
open Go.ChangeShapes Go.WideShapes Go.ChangeAt Go.RowKit En
set_option linter.unusedVariables false
set_option linter.unusedSimpArgs false
set_option maxRecDepth 100000
set_option maxHeartbeats 1600000
variable {A:Book} {σ:St} {w:World}
def Told (A:Book) (w:World) (s:Nat) (σ':St):Ending→World→Prop:=fun e w'=>e=.returned (.tuple #[])∧∃ A',Rep A' σ' w'∧Grow A.L w A'.L w'∧Stay A A' s∧A'.bx=A.bx∧A'.vpairs=A.vpairs
theorem tell1_any (hR:Rep A σ w) (s:Nat) (t:Txn) (ht:σ.txns.getD s none=some t) (e:Ev) (kk tt rr:Int) (hcs:evCs e (.slice none 0 0)=[zi kk,zi tt,zu 0,zi 0,zi 0,zi 0,zi 0,zi 0,zi 0,.slice none 0 0,zi 0,zi rr]) (hp:e.res.pairs=[]) (hn:σ.tale.length<1000000) (b0 b1 b2:Nat) (B0:Box A.L w b0 (.pointer (some ⟨A.bt s,0,none⟩))) (B1:Box A.L w b1 (.pointer (some ⟨A.be,0,none⟩))) (TT:TypeId) (X2:Fix A.L w b2 (.cells #[zi kk,zi tt,zu 0,zi 0,zi 0,zi 0,zi 0,zi 0,zi 0,.slice none 0 0,zi 0,zi rr] TT)):
 Calls Tryz.prog 245 #[.pointer (some ⟨b0,0,none⟩),.pointer (some ⟨b1,0,none⟩),.pointer (some ⟨b2,0,none⟩)] w (Told A w s (σ.event e)):=by
 have c0:=B0.cell;have t13:w.cell? ⟨A.bt s,13,none⟩=some (.bool (A.vover s)):=hR.txn ht 13 rfl;have z13:=hR.txnF ht 13;obtain⟨r1,g1⟩:=hR.txnOver ht true;have B1':=(B1.grow g1).cell;have X2':=X2.grow g1;have x0:=X2'.cell 0 (v:=zi kk) rfl;have x1:=X2'.cell 1 (v:=zi tt) rfl;have x2:=X2'.cell 2 (v:=zu 0) rfl;have x3:=X2'.cell 3 (v:=zi 0) rfl;have x4:=X2'.cell 4 (v:=zi 0) rfl;have x5:=X2'.cell 5 (v:=zi 0) rfl;have x6:=X2'.cell 6 (v:=zi 0) rfl;have x7:=X2'.cell 7 (v:=zi 0) rfl;have x8:=X2'.cell 8 (v:=zi 0) rfl;have x9:=X2'.cell 9 (v:=.slice none 0 0) rfl;have x10:=X2'.cell 10 (v:=zi 0) rfl;have x11:=X2'.cell 11 (v:=zi rr) rfl;have he:=event_any r1 s e kk tt 0 0 0 0 0 0 0 0 rr none 0 0 hcs (by rw[hp];exact PRow.nil _ _) hn;have HE:=zH (zA he g1);clear hR ht B0 B1 X2 X2' r1 g1 he hcs hp hn;go_enter Tryz.func245,Tryz.ntmps245;go_wp2_with (go_at_call 74;refine HE.out.1.mono ?_;rintro e' w2 ⟨rfl,A2,q1,q2,q3,q4,q5⟩)
 go_end0
 exact⟨rfl,A2,q1,HE.out.2.trans q2,⟨q3.bf,q3.ba,q3.bp,q3.bt,q3.bm,q3.bc,q3.vnext,q3.vcall,q3.vsweep,q3.mp,q3.mt,q3.bx,q3.vpairs⟩,q4,q5⟩
theorem tell_any (hR:Rep A σ w) (s:Nat) (t:Txn) (ht:σ.txns.getD s none=some t) (hm:A.mt s=0) (e:Ev) (kk tt rr:Int) (hcs:evCs e (.slice none 0 0)=[zi kk,zi tt,zu 0,zi 0,zi 0,zi 0,zi 0,zi 0,zi 0,.slice none 0 0,zi 0,zi rr]) (hp:e.res.pairs=[]) (hn:σ.tale.length<1000000):
 Calls Tryz.prog 207 #[.pointer (some ⟨A.be,0,none⟩),.pointer (some ⟨A.bt s,0,none⟩),.agg #[zi kk,zi tt,zu 0,zi 0,zi 0,zi 0,zi 0,zi 0,zi 0,.slice none 0 0,zi 0,zi rr]] w (Told A w s (σ.tellEnd s e)):=by
 obtain⟨r3,g3,f0,f1,f2⟩:=allocs3 hR #[.pointer (some ⟨A.be,0,none⟩)] 85 #[.pointer (some ⟨A.bt s,0,none⟩)] 123 #[zi kk,zi tt,zu 0,zi 0,zi 0,zi 0,zi 0,zi 0,zi 0,.slice none 0 0,zi 0,zi rr] 170;have a1:=f1.cell 0 (v:=.pointer (some ⟨A.bt s,0,none⟩)) rfl
 by_cases ho:t.over=true
 · have e0:σ.tellEnd s e=σ:=by unfold St.tellEnd;rw[txn_get ht,if_pos ho]
   rw[e0];have t10:=r3.txn ht 10 (v:=.int .u32 1) (by simp[txnCs,onceCs,ho]);have HD:=zH (fun fv=>do_done ⟨A.bt s,10,none⟩ fv _ t10);have HR:=zH (zA r3 g3);clear hR ht r3 g3 f0 f1 f2 hm hcs hp hn ho e0 t10;go_enter Tryz.func207,Tryz.ntmps207;go_wp2_with (go_at_call 181;refine (HD.out _).mono ?_;rintro e' w2 ⟨rfl,rfl⟩)
   go_end0
   exact⟨rfl,A,HR.out.1,HR.out.2,Stay.refl _ _,rfl,rfl⟩
 · have ho':t.over=false:=by simpa using ho
   have e0:σ.tellEnd s e=(σ.setT s {t with over:=true}).event e:=by unfold St.tellEnd;rw[txn_get ht,if_neg ho]
   rw[e0];have t10:=r3.txn ht 10 (v:=.int .u32 0) (by simp[txnCs,onceCs,ho']);have t11:=r3.txn ht 11 (v:=.int .i32 0) (by simp[txnCs,onceCs,hm]);have z10:=r3.txnF ht 10;have z11:=r3.txnF ht 11;obtain⟨r4,g4⟩:=r3.txnLock ht 1;have hf:=tell1_any r4 s t ht e kk tt rr hcs hp hn (w.heap.size+1) w.heap.size (w.heap.size+1+1) (f1.box.grow g4) (f0.box.grow g4) _ (f2.grow g4)
   have hd := do_first (A.bt s) 10 245 #[.pointer (some ⟨w.heap.size + 1, 0, none⟩), .pointer (some ⟨w.heap.size, 0, none⟩), .pointer (some ⟨w.heap.size + 1 + 1, 0, none⟩)] _ _ t10 t11 z10 z11 (enter_tell _) hf (by
     rintro w' ⟨A',q1,q2,q3,q4,q5⟩
     have ht':(σ.event e).txns.getD s none=some t:=ht
     have b10:=q1.txn ht' 10 (v:=.int .u32 0) (by simp[txnCs,onceCs,ho'])
     have b11:=q1.txn ht' 11 (v:=.int .i32 1) (by simp[txnCs,onceCs,q3.mt])
     have y10:=q1.txnF ht' 10
     have y11:=q1.txnF ht' 11
     rw[q3.bt] at b10 b11 y10 y11
     exact⟨b10,b11,y10,y11⟩)
   have HD:=zH hd;have HR:=zH (zA g3 g4);have HT:=zH (zA ht hm);clear hR ht r3 g3 f0 f1 f2 hm hcs hp hn ho ho' e0 t10 t11 z10 z11 r4 g4 hf hd;go_enter Tryz.func207,Tryz.ntmps207;go_wp2_with (go_at_call 181;refine HD.out.mono ?_;rintro e' w2 ⟨rfl,w3,⟨A',q1,q2,q3,q4,q5⟩,rfl⟩)
   go_end0
   have ht':(σ.event e).txns.getD s none=some t:=HT.out.1;obtain⟨k1,g5⟩:=q1.drew.txnDone ht';have ht2:((σ.event e).setT s {t with over:=true}).txns.getD s none=some {t with over:=true}:=by rw[getT_set (lt_of_txn ht'),if_pos rfl]
   obtain⟨k2,g6⟩:=k1.txnLock ht2 0;have gg:=((((HR.out.1.trans HR.out.2).trans q2).trans (Grow.drew _ _)).trans g5).trans g6;have eb:A'.bt s=A.bt s:=by rw[q3.bt]
   rw[eb] at k2 gg;refine⟨rfl,_,k2,gg,⟨q3.bf,q3.ba,q3.bp,q3.bt,q3.bm,q3.bc,q3.vnext,q3.vcall,q3.vsweep,q3.mp,?_,q3.bx,q3.vpairs⟩,q4,q5⟩;show (fun k=>if k=s then 0 else A'.mt k)=A.mt;rw[q3.mt]
   funext k
   show (if k=s then 0 else if k=s then 1 else A.mt k)=A.mt k
   by_cases hk:k=s
   · rw[if_pos hk,hk,HT.out.2]
   · rw[if_neg hk,if_neg hk]
theorem store_i (h:Rep A σ w) (i n:Nat) (z y:Int) (hz:z=(i:Int)) (hy:y=(n:Int)) (hi:i<σ.words.length) (hc:σ.count<4000000000000000000):
 Calls Tryz.prog 71 #[.pointer (some ⟨A.ba,0,none⟩),zi z,zu y] w (Did A w (σ.put i n) (.tuple #[])):=by subst hz hy;exact store_any h i n hi hc
theorem trnCs_length (l:List Trn):(trnCs l).length=l.length*3:=by
 induction l with
 |nil=>rfl
 |cons x l ih=>simp only[trnCs,List.flatMap_cons,List.length_append,List.length_cons,List.length_nil] at ih ⊢;omega
theorem turns_any (hR:Rep A σ w) (s:Nat) (l:List Trn) (lv:Value) (hl:FRow A.L w 3 lv (trnCs l)) (r:Res) (vp:Value) (hp:(vp=A.vpairs s∧r.pairs=(σ.c s).r.pairs)∨(vp=.slice none 0 0∧r.pairs=[])):
 Calls Tryz.prog 210 #[.pointer (some ⟨A.be,0,none⟩),.pointer (some ⟨A.bt s,0,none⟩),.pointer (some ⟨A.bc s,0,none⟩),lv,.agg #[zi (r.e:Int),zi (r.value:Int),vp,zi (r.over:Int),zi (r.reason:Int)]] w (Tells A w s (σ,.turns l r)):=by
 have hl0:=hl;obtain⟨a,n,cap,rfl,hlen,hcap,hmax,hrow⟩:=hl;rw[trnCs_length] at hlen;have FA:=zH (allocs5 hR #[.pointer (some ⟨A.be,0,none⟩)] 85 #[.pointer (some ⟨A.bt s,0,none⟩)] 123 #[.pointer (some ⟨A.bc s,0,none⟩)] 125 #[.slice a n cap] 330 #[zi (r.e:Int),zi (r.value:Int),vp,zi (r.over:Int),zi (r.reason:Int)] 168);have HL:=zH (zA hl0 hp);clear hR hp hl0 hcap hmax hrow
 cases l with
 |nil=>
  obtain rfl:n=0:=by simp at hlen;omega
  clear hlen;go_enter Tryz.func210,Tryz.ntmps210;go_wp2_with fail;go_ret;obtain⟨r1,r2,f0,f1,f2,f3,f4⟩:=FA.out;exact⟨A,_,rfl,r1,r2,Stay.refl _ _,_,_,_,_,rfl,f0.box,f1.box,f2.box,_,_,f4,HL.out.2⟩
 |cons x l=>
  have hn0:n≠0:=by simp at hlen;omega
  have d1:((n:Int)==0)=false:=by simp;omega
  have d2:((n:Int)=0)=False:=by simp;omega
  have d3:(n=0)=False:=by simp;omega
  clear hlen hn0;go_enter Tryz.func210,Tryz.ntmps210;go_wp2_with fail;go_ret;obtain⟨r1,r2,f0,f1,f2,f3,f4⟩:=FA.out;exact⟨A,_,rfl,r1,r2,Stay.refl _ _,_,_,_,_,_,rfl,⟨_,f3.box,HL.out.1.grow r2⟩,f0.box,f1.box,f2.box,_,_,f4,HL.out.2⟩
theorem k_turnsE (hR:Rep A σ w) (s:Nat) (t:Txn) (ht:σ.txns.getD s none=some t) (c:Cal) (hc:σ.calls.getD s none=some c) (r:Res) (hs:s<8) (hcnt:σ.count<4000000000000000000) (b0 b1 b2 b3:Nat)
 (B0:Box A.L w b0 (.pointer (some ⟨A.be,0,none⟩))) (B1:Box A.L w b1 (.pointer (some ⟨A.bt s,0,none⟩))) (B2:Box A.L w b2 (.pointer (some ⟨A.bc s,0,none⟩))) (B3:ResBox (kp A σ s) A.L w b3 r):
 Calls Tryz.prog 247 #[.pointer (some ⟨b0,0,none⟩),.pointer (some ⟨b1,0,none⟩),.pointer (some ⟨b2,0,none⟩),.pointer (some ⟨b3,0,none⟩)] w (Ran A w s (σ.run s (.turns [] r))):=by
 obtain⟨vp,TR,FR,hp⟩:=B3;have hps:(kp A σ s).ps=c.r.pairs:=by show (σ.c s).r.pairs=_;rw[call_get hc]
 rw[hps] at hp;have hform:∃ a n cap,vp=.slice a n cap:=by
  rcases hp with ⟨h1,_⟩|⟨h1,_⟩
  · have hown:=hR.mem.all (.pairs s)
    rw[mem_pairs hc] at hown;obtain⟨a,cap,h2,_⟩:=Ow.own_form hown.1;exact⟨a,_,cap,h1.trans h2⟩
  · exact⟨none,0,0,h1⟩
 obtain⟨va,vn,vc,hvp⟩:=hform;have c0:=B0.cell;have c1:=B1.cell;have c2:=B2.cell;have e2:=hR.z2;have t2:w.cell? ⟨A.bt s,2,none⟩=some (zi (s:Int)):=hR.txn ht 2 rfl;have n1:IntKind.i64.wrap (1+(s:Int))=1+(s:Int):=by rw[IntKind.wrap_i64];omega
 have HL:=zH (store_i hR.drew (1+s) 0 (1+(s:Int)) 0 (by omega) rfl (by rw[hR.nw];omega) hcnt);have HG:=zG A.L w;have HK:Hid (∀ w',Rep A σ w'→Grow A.L w A.L w'→w'.cell? ⟨b0,0,none⟩=some (.pointer (some ⟨A.be,0,none⟩))∧w'.cell? ⟨A.be,2,none⟩=some (.pointer (some ⟨A.ba,0,none⟩))∧w'.cell? ⟨b1,0,none⟩=some (.pointer (some ⟨A.bt s,0,none⟩))∧w'.cell? ⟨A.bt s,2,none⟩=some (zi (s:Int))):=fun w' r g=>⟨(B0.grow g).cell,r.eng 2 rfl,(B1.grow g).cell,r.txn ht 2 rfl⟩
 have HB:Hid (∀ w1,Rep A (σ.put (1+s) 0) w1→Grow A.L w A.L w1→Calls Tryz.prog 240 #[.pointer (some ⟨A.be,0,none⟩),.pointer (some ⟨A.bc s,0,none⟩),.agg #[zi (r.e:Int),zi (r.value:Int),vp,zi (r.over:Int),zi (r.reason:Int)]] w1 (Ran A w1 s ((σ.put (1+s) 0).finish s r,none))∧w1.cell? ⟨b0,0,none⟩=some (.pointer (some ⟨A.be,0,none⟩))∧w1.cell? ⟨b2,0,none⟩=some (.pointer (some ⟨A.bc s,0,none⟩))∧w1.cell? ⟨b3,0,none⟩=some (zi (r.e:Int))∧w1.cell? ⟨b3,1,none⟩=some (zi (r.value:Int))∧w1.cell? ⟨b3,2,none⟩=some vp∧w1.cell? ⟨b3,3,none⟩=some (zi (r.over:Int))∧w1.cell? ⟨b3,4,none⟩=some (zi (r.reason:Int))):=by
  intro w1 q g;have fr:=FR.grow g;exact⟨finish_any q s c hc r va vn vc vp hvp hp,(B0.grow g).cell,(B2.grow g).cell,fr.cell 0 rfl,fr.cell 1 rfl,fr.cell 2 rfl,fr.cell 3 rfl,fr.cell 4 rfl⟩
 have hrun:σ.run s (.turns [] r)=((σ.put (1+s) 0).finish s r,none):=rfl;rw[hrun];clear hR ht hc hs hcnt B0 B1 B2 FR hp hps hrun;subst hvp;go_enter Tryz.func247,Tryz.ntmps247;go_wp2_with fail;refine wp_region_still_tail 9 (by kernel_rfl) (by kernel_rfl) ?_;simp only[zta,ztb,ztc,ztd]
 repeat still_step
 refine wpStill_nil ?_;change wpList _ _ _ _ _ w.drew;generalize w.drew=wd at*;go_wp2_with (first|(go_at_call 71;refine HL.out.mono ?_;rintro e w1 ⟨rfl,q1,q2⟩;have g1:=HG.out.trans q2;obtain⟨hf,d0,d2,k0,k1,k2,k3,k4⟩:=HB.out w1 q1 g1;have HQ:=zH (zA hf g1);clear q1 q2 g1 hf)|(go_at_call 240;refine HQ.out.1.mono ?_;rintro e w2 ⟨A2,v,rfl,p1,p2,p3,rfl⟩))
 trace_state
 go_ret;exact⟨A2,_,rfl,p1,HQ.out.2.trans p2,p3,rfl⟩
theorem k_turnsC (hR:Rep A σ w) (s:Nat) (c:Cal) (hc:σ.calls.getD s none=some c) (x:Trn) (l:List Trn) (r:Res) (hx:x.at_<σ.words.length) (hcnt:σ.count<4000000000000000000) (b0 b1 b2 b3 b4:Nat)
 (B0:ListBox A.L w b0 (x::l)) (B1:Box A.L w b1 (.pointer (some ⟨A.be,0,none⟩))) (B2:Box A.L w b2 (.pointer (some ⟨A.bt s,0,none⟩))) (B3:Box A.L w b3 (.pointer (some ⟨A.bc s,0,none⟩))) (B4:ResBox (kp A σ s) A.L w b4 r):
 Calls Tryz.prog 248 #[.pointer (some ⟨b0,0,none⟩),.pointer (some ⟨b1,0,none⟩),.pointer (some ⟨b2,0,none⟩),.pointer (some ⟨b3,0,none⟩),.pointer (some ⟨b4,0,none⟩)] w (Ran A w s (σ.run s (.turns (x::l) r))):=by
 obtain⟨vp,TR,FR,hp⟩:=B4;have hps:(kp A σ s).ps=c.r.pairs:=by show (σ.c s).r.pairs=_;rw[call_get hc]
 rw[hps] at hp;have hform:∃ a n cap,vp=.slice a n cap:=by
  rcases hp with ⟨h1,_⟩|⟨h1,_⟩
  · have hown:=hR.mem.all (.pairs s)
    rw[mem_pairs hc] at hown;obtain⟨a,cap,h2,_⟩:=Ow.own_form hown.1;exact⟨a,_,cap,h1.trans h2⟩
  · exact⟨none,0,0,h1⟩
 obtain⟨va,vn,vc,hvp⟩:=hform;obtain⟨lv,X0,R0⟩:=B0;obtain⟨a,n,cap,rfl,hlen,hcap,hmax,hrow⟩:=R0;rw[trnCs_length] at hlen;obtain rfl:n=l.length+1:=by simp at hlen;omega
 obtain⟨g,off,rfl,hlg,hltg,hcs⟩:=hrow.resolve_left (by omega);have c0:=X0.cell;have c1:=B1.cell;have c2:=B2.cell;have c3:=B3.cell;have e2:=hR.z2;have l0:w.cell? ⟨g,off,none⟩=some (zi (x.at_:Int)):=hcs 0 (by omega);have l1:w.cell? ⟨g,off+1,none⟩=some (zu (x.old:Int)):=hcs 1 (by omega);have l2:w.cell? ⟨g,off+2,none⟩=some (zu (x.new:Int)):=hcs 2 (by omega);obtain⟨r1,g1,f0⟩:=allocs1 hR #[zi (x.at_:Int),zu (x.old:Int),zu (x.new:Int)] 332;have y0:=f0.cell 0 (v:=zi (x.at_:Int)) rfl;have y1:=f0.cell 1 (v:=zu (x.old:Int)) rfl;have y2:=f0.cell 2 (v:=zu (x.new:Int)) rfl;have z1:=(B1.grow g1).cell;have ze:=r1.eng 2 (v:=.pointer (some ⟨A.ba,0,none⟩)) rfl;obtain⟨a',ha'⟩:∃ a',a'=if cap=1 then (some (⟨g,off,none⟩:Addr)) else some ⟨g,off+3,none⟩:=⟨_,rfl⟩
 have hsl:∀ w',(Instr.slice 330 (.slice (some ⟨g,off,none⟩) (l.length+1) cap) (some (zi 1)) none none).run Tryz.prog w'=.ok (.slice a' l.length (cap - 1)) w':=by
  intro w';have he:Tryz.prog.elem 330=332:=by kernel_rfl
  have hz:(sizeOf 332).run Tryz.prog w'=.ok 3 w':=by kernel_rfl
  rw[run_slice_l (P:=Tryz.prog) w' 330 (some ⟨g,off,none⟩) (l.length+1) cap (by kernel_rfl) .i64 1 (by decide) (by omega),he,hz,ha']
  by_cases h1:cap=1
  · simp[Result.andThen,sliced,h1]
  · simp[Result.andThen,sliced,h1,Addr.add]
 have HB : Hid (∀ σ' w2, Rep A σ' w2 → σ'.calls = σ.calls → Grow A.L w A.L w2 → w2.cell? ⟨b0, 0, none⟩ = some (.slice (some ⟨g, off, none⟩) (l.length + 1) cap) ∧ w2.cell? ⟨b1, 0, none⟩ = some (.pointer (some ⟨A.be, 0, none⟩)) ∧ w2.cell? ⟨b2, 0, none⟩ = some (.pointer (some ⟨A.bt s, 0, none⟩)) ∧ w2.cell? ⟨b3, 0, none⟩ = some (.pointer (some ⟨A.bc s, 0, none⟩)) ∧ w2.cell? ⟨b4, 0, none⟩ = some (zi (r.e : Int)) ∧ w2.cell? ⟨b4, 1, none⟩ = some (zi (r.value : Int)) ∧ w2.cell? ⟨b4, 2, none⟩ = some vp ∧ w2.cell? ⟨b4, 3, none⟩ = some (zi (r.over : Int)) ∧ w2.cell? ⟨b4, 4, none⟩ = some (zi (r.reason : Int)) ∧
     Calls Tryz.prog 210 #[.pointer (some ⟨A.be,0,none⟩),.pointer (some ⟨A.bt s,0,none⟩),.pointer (some ⟨A.bc s,0,none⟩),.slice a' l.length (cap - 1),.agg #[zi (r.e:Int),zi (r.value:Int),vp,zi (r.over:Int),zi (r.reason:Int)]] w2.drew (Tells A w2.drew s (σ',.turns l r))):=by
  intro σ' w2 q hcl gr;have fr:=FR.grow gr;have hrow':FRow A.L w2.drew 3 (.slice a' l.length (cap - 1)) (trnCs l):=by
   refine⟨_,_,_,rfl,trnCs_length l,by omega,by omega,?_⟩
   by_cases hc1:cap=1
   · exact .inl (by omega)
   refine .inr ⟨g,off+3,by rw[ha',if_neg hc1],hlg,Nat.lt_of_lt_of_le hltg gr.size,fun j hj=>?_⟩;rw[World.cell?_drew,World.cell?_of_block (w:=w) (a:=⟨g,off+3+j,none⟩) (gr.block g hltg hlg),show off+3+j=off+(3+j) by omega,hcs (3+j) (by omega)];simp[trnCs,Nat.add_comm 3 j]
  have hp':(vp=A.vpairs s∧r.pairs=(σ'.c s).r.pairs)∨(vp=.slice none 0 0∧r.pairs=[]):=by
   have e:σ'.c s=c:=by unfold St.c;rw[hcl,hc];rfl
   rw[e];exact hp
  exact⟨(X0.grow gr).cell,(B1.grow gr).cell,(B2.grow gr).cell,(B3.grow gr).cell,fr.cell 0 rfl,fr.cell 1 rfl,fr.cell 2 rfl,fr.cell 3 rfl,fr.cell 4 rfl,turns_any q.drew s l _ hrow' r vp hp'⟩
 clear ha';have HG:=zH (g1.trans (Grow.drew A.L (w.alloc (.cells #[zi (x.at_:Int),zu (x.old:Int),zu (x.new:Int)] 332))));have nl:¬ ((l.length:Int)+1≤0):=by omega
 have nl2:(0:Int)<(l.length:Int)+1:=by omega
 by_cases ho:x.old=0
 · have HL:=zH (store_any r1.drew x.at_ x.new hx hcnt)
   have hrun:σ.run s (.turns (x::l) r)=(σ.put x.at_ x.new,some (.turns l r)):=by simp only[St.run,if_pos ho]
   rw[hrun];have HB1:=zH (fun w2 q gr=>HB.out (σ.put x.at_ x.new) w2 q rfl gr);have d1:((x.old:Int)==0)=true:=by simpa using ho
   have d2:((x.old:Int)=0)=True:=by simpa using ho
   clear hR r1 g1 f0 hc hx hcnt X0 B1 B2 B3 FR hp hps hrun HB ho hlen hcap hmax hrow hcs c1 c2 c3 e2;generalize x.at_=xa at*;generalize x.old=xo at*;generalize x.new=xn at*;subst hvp;go_enter Tryz.func248,Tryz.ntmps248;go_wp2_with fail;generalize w.alloc _=w1 at*;refine wp_region_still_tail 8 (by kernel_rfl) (by kernel_rfl) ?_;simp only[zta,ztb,ztc,ztd]
   repeat still_step
   refine wpStill_nil ?_;change wpList _ _ _ _ _ w1.drew;generalize w1.drew=wd at*;go_wp2_with (go_at_call 71;refine HL.out.mono ?_;rintro e w2 ⟨rfl,q1,q2⟩;have gr:=HG.out.trans q2;obtain⟨d0,d1,d2,d3,k0,k1,k2,k3,k4,hf⟩:=HB1.out w2 q1 gr;have HQ:=zH (zA hf (gr.trans (Grow.drew _ _)));clear q1 q2 gr hf);refine wp_region_still_tail 6 (by kernel_rfl) (by kernel_rfl) ?_;simp only[zta,ztb,ztc,ztd]
   repeat still_step
   refine wpStill_nil ?_;change wpList _ _ _ _ _ w2.drew;generalize w2.drew=wd2 at*;go_wp2_with (go_at_call 210;refine HQ.out.1.mono ?_;rintro e w3 ⟨A2,v,rfl,p1,p2,p3,p4⟩);go_ret;exact⟨A2,v,rfl,p1,HQ.out.2.trans p2,p3,p4⟩
 · have HL:=zH (cas_any r1.drew x.at_ x.old x.new hx hcnt)
   have hrun:σ.run s (.turns (x::l) r)=(σ.cas x.at_ x.old x.new,some (.turns l r)):=by simp only[St.run,if_neg ho]
   rw[hrun];have HB1:=zH (fun w2 q gr=>HB.out (σ.cas x.at_ x.old x.new) w2 q (by unfold St.cas;split<;>rfl) gr);have d1:((x.old:Int)==0)=false:=by simpa using ho
   have d2:((x.old:Int)=0)=False:=by simpa using ho
   clear hR r1 g1 f0 hc hx hcnt X0 B1 B2 B3 FR hp hps hrun HB ho hlen hcap hmax hrow hcs c1 c2 c3 e2;generalize x.at_=xa at*;generalize x.old=xo at*;generalize x.new=xn at*;subst hvp;go_enter Tryz.func248,Tryz.ntmps248;go_wp2_with fail;generalize w.alloc _=w1 at*;refine wp_region_still_tail 10 (by kernel_rfl) (by kernel_rfl) ?_;simp only[zta,ztb,ztc,ztd]
   repeat still_step
   refine wpStill_nil ?_;change wpList _ _ _ _ _ w1.drew;generalize w1.drew=wd at*;go_wp2_with (go_at_call 69;refine HL.out.mono ?_;rintro e w2 ⟨rfl,q1,q2⟩;have gr:=HG.out.trans q2;obtain⟨d0,d1,d2,d3,k0,k1,k2,k3,k4,hf⟩:=HB1.out w2 q1 gr;have HQ:=zH (zA hf (gr.trans (Grow.drew _ _)));clear q1 q2 gr hf);refine wp_region_still_tail 6 (by kernel_rfl) (by kernel_rfl) ?_;simp only[zta,ztb,ztc,ztd]
   repeat still_step
   refine wpStill_nil ?_;change wpList _ _ _ _ _ w2.drew;generalize w2.drew=wd2 at*;go_wp2_with (go_at_call 210;refine HQ.out.1.mono ?_;rintro e w3 ⟨A2,v,rfl,p1,p2,p3,p4⟩);go_ret;exact⟨A2,v,rfl,p1,HQ.out.2.trans p2,p3,p4⟩
theorem index_any (w:World) (l:List Nat) (v:Value) (x:Nat) (ho:w.ownsRow 0 3 1 v l.length (l.map i64)) (hl:l.length<1000000):
 Calls Tryz.prog 339 #[v,zi (x:Int)] w fun e w'=>(∃ r:Int,e=.returned (zi r)∧(0≤r↔x∈l))∧w=w':=by
 obtain⟨av,capv,hv,_⟩:=Ow.own_form ho;have hat:∀ k (hk:k<l.length),∃ g,av=some ⟨g,0,none⟩∧w.cell? ⟨g,k,none⟩=some (zi (l[k]:Int)):=by
  intro k hk;obtain⟨g,cap,e,hc⟩:=own_at ho (j:=k) (u:=zi (l[k]:Int)) (by simp[hk]);rw[hv] at e;simp only[Value.slice.injEq] at e;exact⟨g,e.1,hc⟩
 subst hv;have HAT:=zH hat;have HLL:=zH hl;clear hat ho hl;go_enter Tryz.func339,Tryz.ntmps339;go_wp2
 go_loop [8] (fun i=>∃ k:Nat,k≤l.length∧i=zi (k:Int)∧x ∉ l.take k) (fun i=>l.length - (intOf i).toNat)
 case atStart=>exact⟨0,Nat.zero_le _,rfl,by simp⟩
 case round=>
  obtain⟨k,hk,rfl,hnot⟩:=hrel
  by_cases hlt:k<l.length
  · obtain⟨g,rfl,hc⟩:=HAT.out k hlt
    have ht:l.take (k+1)=l.take k++[l[k]]:=by rw[List.take_succ_eq_append_getElem hlt]
    have hmem:l[k]∈l:=List.getElem_mem hlt;have HT:=zH (zA ht (zA hnot hmem));have b1:(k:Int)<(l.length:Int):=by omega
    have b0:(0:Int)≤(k:Int):=by omega
    have n1:IntKind.i64.wrap ((k:Int)+1)=(k:Int)+1:=by have:=HLL.out;rw[IntKind.wrap_i64];omega
    have HLT:=zH hlt;clear ht hnot hk hmem;generalize l[k]=y at*
    by_cases hy:x=y
    · have HY:=zH hy
      obtain⟨fa1,fa2,fa3,fa4,fa5⟩:=zeT (x:=x) (c:=y) (ci:=(y:Int)) (by omega);clear hy;go_wp2;go_ret;exact⟨⟨_,rfl,by constructor<;>intro _<;>first|(rw[HY.out];exact HT.out.2.2)|omega⟩,rfl⟩
    · have HY:=zH hy
      obtain⟨fa1,fa2,fa3,fa4,fa5⟩:=zeF (x:=x) (c:=y) (ci:=(y:Int)) (by omega);clear hy;go_wp2
      go_round
      case rel=>exact⟨k+1,HLT.out,by first|rfl|go_num,by rw[HT.out.1];intro h;rcases List.mem_append.1 h with h|h;exact HT.out.2.1 h;exact HY.out (List.mem_singleton.1 h)⟩
      case measure=>have:=HLT.out;simp[intOf];omega
  · have hx:x ∉ l:=by rw[List.take_of_length_le (by omega)] at hnot;exact hnot
    have HX:=zH hx;obtain rfl:k=l.length:=by omega
    clear hlt hnot hk hx;go_wp2;go_ret;exact⟨⟨_,rfl,by constructor;intro h;exact absurd h (by decide);intro h;exact absurd h HX.out⟩,rfl⟩
theorem contains_any (w:World) (l:List Nat) (v:Value) (x:Nat) (ho:w.ownsRow 0 3 1 v l.length (l.map i64)) (hl:l.length<1000000):
 Calls Tryz.prog 338 #[v,zi (x:Int)] w fun e w'=>e=.returned (.bool (decide (x∈l)))∧w=w':=by
 have HI:=zH (index_any w l v x ho hl);clear ho hl;go_enter Tryz.func338,Tryz.ntmps338;go_wp2_with (go_at_call 339;refine HI.out.mono ?_;rintro e w' ⟨⟨r,rfl,hr⟩,rfl⟩);go_ret;refine⟨?_,rfl⟩;have e:decide ((0:Int)≤r)=decide (x∈l):=by rw[decide_eq_decide];exact hr
 first|(rw[←e];rfl)|(simp[hr];done)|(rw[show decide (r≥0)=decide (x∈l) from e])
theorem Does.trans2 {A:Book} {w w1:World} {s:Nat} {σ1 σ2:St} {v:Value} {e:Ending} {w':World} {A1:Book} (g1:Grow A.L w A1.L w1) (s1:Stay A A1 s) (b1:A1.bx=A.bx) (p1:A1.vpairs=A.vpairs) (h:Does A1 w1 s σ2 v e w'):Does A w s σ2 v e w':=
 let ⟨e1,A2,r,g,st,bx,vp⟩:=h;⟨e1,A2,r,g1.trans g,s1.trans st,bx.trans b1,vp.trans p1⟩
theorem bind_any (hR:Rep A σ w) (s:Nat) (t:Txn) (ht:σ.txns.getD s none=some t) (tq:Nat) (hto:tq≤65535) (hn:t.bonds.length<1000000) (htl:σ.tale.length<1000000):
 Calls Tryz.prog 336 #[.pointer (some ⟨A.be,0,none⟩),.pointer (some ⟨A.bt s,0,none⟩),zi (tq:Int)] w (Does A w s (σ.bind s tq) (.tuple #[])):=by
 have c9:w.cell? ⟨A.bt s,9,none⟩=some (A.vbonds s):=hR.txn ht 9 rfl;have z9:=hR.txnF ht 9;have hown0:=hR.mem.all (.bonds s);rw[mem_bonds ht] at hown0;obtain⟨av,capv,hv,_⟩:=Ow.own_form hown0.1;have HC:=zH (contains_any w t.bonds _ tq hown0.1 hn)
 by_cases hm:tq∈t.bonds
 · have hst:σ.bind s tq=σ:=by unfold St.bind;rw[txn_get ht,if_pos hm]
   rw[hst];have hd:decide (tq∈t.bonds)=true:=by simpa using hm
   rw[hd,hv] at HC;rw[hv] at c9;have HR:=zH hR;clear hR ht hn htl hm hst hd hown0 hto hv;generalize t.bonds.length=n at*;go_enter Tryz.func336,Tryz.ntmps336;go_wp2_with (go_at_call 338;refine HC.out.mono ?_;rintro e w' ⟨rfl,rfl⟩)
   go_end0
   exact⟨rfl,A,HR.out,Grow.refl _ _,Stay.refl _ _,rfl,rfl⟩
 · have hd:decide (tq∈t.bonds)=false:=by simpa using hm
   rw[hd,hv] at HC;have hst:σ.bind s tq=(σ.setT s {t with bonds:=t.bonds++[tq]}).event {kind:=4,t:=t.id,n:=tq}:=by unfold St.bind;rw[txn_get ht,if_neg hm]
   rw[hst];have hA:=hR.alloc (.cells #[zi (tq:Int)] 3);have hown:=hA.mem.all (.bonds s);rw[mem_bonds ht] at hown;have ho:(w.alloc (.cells #[zi (tq:Int)] 3)).ownsRow 0 3 1 (A.vbonds s) t.bonds.length (t.bonds.map i64):=hown.1;have n1:IntKind.u64.wrap (tq:Int)=(tq:Int):=by rw[IntKind.wrap_u64];omega
   have FN : Hid (∀ v' w2, w2.ownsRow 0 3 1 v' (t.bonds.length + 1) (t.bonds.map i64 ++ [zi (tq : Int)]) → (w.alloc (.cells #[zi (tq : Int)] 3)).grownBy w2 (A.vbonds s).ownBlock → (v'.ownBlock = (A.vbonds s).ownBlock ∨ ∀ g, v'.ownBlock = some g → (w.alloc (.cells #[zi (tq : Int)] 3)).heap.size ≤ g) →
       (w2.setCell ⟨A.bt s,9,none⟩ v').cell? ⟨A.bt s,0,none⟩=some (zi (t.id:Int))∧Calls Tryz.prog 74 #[.pointer (some ⟨A.be,0,none⟩),.agg #[zi 4,zi (t.id:Int),zu (tq:Int),zi 0,zi 0,zi 0,zi 0,zi 0,zi 0,.slice none 0 0,zi 0,zi 0]] (w2.setCell ⟨A.bt s,9,none⟩ v') (Does A w s ((σ.setT s {t with bonds:=t.bonds++[tq]}).event {kind:=4,t:=t.id,n:=tq}) (.tuple #[]))∧w2.cell? ⟨A.bt s,9,none⟩=some (A.vbonds s)∧w2.frozen? ⟨A.bt s,9,none⟩=false):=by
    intro v' w2 q1 q2 q3;obtain⟨k1,k2,k3,k4⟩:=hA.bondsOn ht (t.bonds++[tq]) v' q2 (by simpa using q1) q3;have ht2:(σ.setT s {t with bonds:=t.bonds++[tq]}).txns.getD s none=some {t with bonds:=t.bonds++[tq]}:=by rw[getT_set (lt_of_txn ht),if_pos rfl]
    refine⟨k1.txn ht2 0 rfl,?_,k3,k4⟩;have he:=event_any k1 s {kind:=4,t:=t.id,n:=tq} 4 t.id tq 0 0 0 0 0 0 0 0 none 0 0 rfl (PRow.nil _ _) htl;refine he.mono fun e w' h=>?_
    exact Does.trans2 (σ1:=σ) ((Grow.alloc A.L w _).trans k2) ⟨rfl,rfl,rfl,rfl,rfl,rfl,rfl,rfl,rfl,rfl,rfl,fun _ _=>rfl,fun _ _=>rfl⟩ rfl rfl h
   rw[hv] at c9 ho FN;have HO:=zH ho;clear hR ht htl hm hst hd hown0 hto hv hA hown ho;generalize hn':t.bonds.length=n at*;have HN:=zH hn;clear hn hn';obtain⟨ii,hii,hz0,hz1,hz2⟩:=info_parts infoI;go_enter Tryz.func336,Tryz.ntmps336;go_wp2_with (first|(go_at_call 338;refine HC.out.mono ?_;rintro e w' ⟨rfl,rfl⟩)|(refine Ow.wpList_append_to _ rfl (.tmp 17) (.tmp 19) 57 rfl 0 _ ii _ 1 8 Tryz.underlying57 hii hz0 hz1 hz2 rfl (by decide) (.slice av n capv) n (t.bonds.map i64) rfl HO.out ⟨w.heap.size,0,none⟩ 1 1 (by omega) [zi (tq:Int)] rfl rfl (by intro j' u hu;exact Ow.new_row _ [zi (tq:Int)] _ _ rfl j' u hu) (by intro u hu;obtain rfl:=List.mem_singleton.1 hu;rfl) (by have:=HN.out;unfold maxLen;omega) (by have:=HN.out;omega) (Nat.zero_le _) ?_;intro v' w4 q1 q2 q3;obtain⟨k1,k2,k3,k4⟩:=FN.out v' w4 q1 q2 q3;obtain⟨a4,cap4,rfl,_⟩:=Ow.own_form q1;have K1:=zH k2;clear k2 q1 q2 q3)|(go_at_call 74;refine K1.out.mono ?_;rintro e w2 hd2;obtain⟨rfl,hd3⟩:=id hd2))
   go_end0
   exact⟨rfl,hd3⟩
end Go.Proofs.YtiimlopcifljeaaGreatDoor.Em
