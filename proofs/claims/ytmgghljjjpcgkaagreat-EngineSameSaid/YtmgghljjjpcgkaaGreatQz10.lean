import Derived.Test.YtmgghljjjpcgkaaGreatQz8
namespace Go.Proofs.YtmgghljjjpcgkaaGreat.Em
open Go.ChangeShapes Go.WideShapes Go.ChangeAt Go.RowKit En
set_option linter.unusedVariables false
set_option linter.unusedSimpArgs false
set_option maxRecDepth 100000
set_option maxHeartbeats 1600000
variable {A:Book} {σ:St} {w:World}
theorem store_i (h:Rep A σ w) (i n:Nat) (z y:Int) (hz:z=(i:Int)) (hy:y=(n:Int)) (hi:i<σ.words.length) (hc:σ.count<4000000000000000000):
 Calls Tryz.prog 50 #[.pointer (some ⟨A.ba,0,none⟩),zi z,zu y] w (Did A w (σ.put i n) (.tuple #[])):=by subst hz hy;exact store_any h i n hi hc
theorem trnCs_length (l:List Trn):(trnCs l).length=l.length*3:=by
 induction l with
 |nil=>rfl
 |cons x l ih=>simp only[trnCs,List.flatMap_cons,List.length_append,List.length_cons,List.length_nil] at ih ⊢;omega
theorem turns_any (hR:Rep A σ w) (s:Nat) (l:List Trn) (lv:Value) (hl:FRow A.L w 3 lv (trnCs l)) (r:Res) (vp:Value) (hp:(vp=A.vpairs s∧r.pairs=(σ.c s).r.pairs)∨(vp=.slice none 0 0∧r.pairs=[])):
 Calls Tryz.prog 109 #[.pointer (some ⟨A.be,0,none⟩),.pointer (some ⟨A.bt s,0,none⟩),.pointer (some ⟨A.bc s,0,none⟩),lv,.agg #[zi (r.e:Int),zi (r.value:Int),vp,zi (r.over:Int),zi (r.reason:Int)]] w (Tells A w s (σ,.turns l r)):=by
 have hl0:=hl;obtain⟨a,n,cap,rfl,hlen,hcap,hmax,hrow⟩:=hl;rw[trnCs_length] at hlen;have FA:=zH (allocs5 hR #[.pointer (some ⟨A.be,0,none⟩)] 31 #[.pointer (some ⟨A.bt s,0,none⟩)] 86 #[.pointer (some ⟨A.bc s,0,none⟩)] 88 #[.slice a n cap] 209 #[zi (r.e:Int),zi (r.value:Int),vp,zi (r.over:Int),zi (r.reason:Int)] 63);have HL:=zH (zA hl0 hp);clear hR hp hl0 hcap hmax hrow
 cases l with
 |nil=>
  obtain rfl:n=0:=by simp at hlen;omega
  clear hlen;go_enter Tryz.func109,Tryz.ntmps109;go_wp2_with fail;go_ret;obtain⟨r1,r2,f0,f1,f2,f3,f4⟩:=FA.out;exact⟨A,_,rfl,r1,r2,Stay.refl _ _,_,_,_,_,rfl,f0.box,f1.box,f2.box,_,_,f4,HL.out.2⟩
 |cons x l=>
  have hn0:n≠0:=by simp at hlen;omega
  have d1:((n:Int)==0)=false:=by simp;omega
  have d2:((n:Int)=0)=False:=by simp;omega
  have d3:(n=0)=False:=by simp;omega
  clear hlen hn0;go_enter Tryz.func109,Tryz.ntmps109;go_wp2_with fail;go_ret;obtain⟨r1,r2,f0,f1,f2,f3,f4⟩:=FA.out;exact⟨A,_,rfl,r1,r2,Stay.refl _ _,_,_,_,_,_,rfl,⟨_,f3.box,HL.out.1.grow r2⟩,f0.box,f1.box,f2.box,_,_,f4,HL.out.2⟩
theorem k_turnsE (hR:Rep A σ w) (s:Nat) (t:Txn) (ht:σ.txns.getD s none=some t) (c:Cal) (hc:σ.calls.getD s none=some c) (r:Res) (hs:s<8) (hcnt:σ.count<4000000000000000000) (b0 b1 b2 b3:Nat)
 (B0:Box A.L w b0 (.pointer (some ⟨A.be,0,none⟩))) (B1:Box A.L w b1 (.pointer (some ⟨A.bt s,0,none⟩))) (B2:Box A.L w b2 (.pointer (some ⟨A.bc s,0,none⟩))) (B3:ResBox (kp A σ s) A.L w b3 r):
 Calls Tryz.prog 136 #[.pointer (some ⟨b0,0,none⟩),.pointer (some ⟨b1,0,none⟩),.pointer (some ⟨b2,0,none⟩),.pointer (some ⟨b3,0,none⟩)] w (Ran A w s (σ.run s (.turns [] r))):=by
 obtain⟨vp,TR,FR,hp⟩:=B3;have hps:(kp A σ s).ps=c.r.pairs:=by show (σ.c s).r.pairs=_;rw[call_get hc]
 rw[hps] at hp;have hform:∃ a n cap,vp=.slice a n cap:=by
  rcases hp with ⟨h1,_⟩|⟨h1,_⟩
  · have hown:=hR.mem.all (.pairs s)
    rw[mem_pairs hc] at hown;obtain⟨a,cap,h2,_⟩:=Ow.own_form hown.1;exact⟨a,_,cap,h1.trans h2⟩
  · exact⟨none,0,0,h1⟩
 obtain⟨va,vn,vc,hvp⟩:=hform;have c0:=B0.cell;have c1:=B1.cell;have c2:=B2.cell;have e2:=hR.z2;have t2:w.cell? ⟨A.bt s,2,none⟩=some (zi (s:Int)):=hR.txn ht 2 rfl;have n1:IntKind.i64.wrap (1+(s:Int))=1+(s:Int):=by rw[IntKind.wrap_i64];omega
 have HL:=zH (store_i hR.drew (1+s) 0 (1+(s:Int)) 0 (by omega) rfl (by rw[hR.nw];omega) hcnt);have HG:=zG A.L w;have HK:Hid (∀ w',Rep A σ w'→Grow A.L w A.L w'→w'.cell? ⟨b0,0,none⟩=some (.pointer (some ⟨A.be,0,none⟩))∧w'.cell? ⟨A.be,2,none⟩=some (.pointer (some ⟨A.ba,0,none⟩))∧w'.cell? ⟨b1,0,none⟩=some (.pointer (some ⟨A.bt s,0,none⟩))∧w'.cell? ⟨A.bt s,2,none⟩=some (zi (s:Int))):=fun w' r g=>⟨(B0.grow g).cell,r.eng 2 rfl,(B1.grow g).cell,r.txn ht 2 rfl⟩
 have HB:Hid (∀ w1,Rep A (σ.put (1+s) 0) w1→Grow A.L w A.L w1→Calls Tryz.prog 129 #[.pointer (some ⟨A.be,0,none⟩),.pointer (some ⟨A.bc s,0,none⟩),.agg #[zi (r.e:Int),zi (r.value:Int),vp,zi (r.over:Int),zi (r.reason:Int)]] w1 (Ran A w1 s ((σ.put (1+s) 0).finish s r,none))∧w1.cell? ⟨b0,0,none⟩=some (.pointer (some ⟨A.be,0,none⟩))∧w1.cell? ⟨b2,0,none⟩=some (.pointer (some ⟨A.bc s,0,none⟩))∧w1.cell? ⟨b3,0,none⟩=some (zi (r.e:Int))∧w1.cell? ⟨b3,1,none⟩=some (zi (r.value:Int))∧w1.cell? ⟨b3,2,none⟩=some vp∧w1.cell? ⟨b3,3,none⟩=some (zi (r.over:Int))∧w1.cell? ⟨b3,4,none⟩=some (zi (r.reason:Int))):=by
  intro w1 q g;have fr:=FR.grow g;exact⟨finish_any q s c hc r va vn vc vp hvp hp,(B0.grow g).cell,(B2.grow g).cell,fr.cell 0 rfl,fr.cell 1 rfl,fr.cell 2 rfl,fr.cell 3 rfl,fr.cell 4 rfl⟩
 have hrun:σ.run s (.turns [] r)=((σ.put (1+s) 0).finish s r,none):=rfl;rw[hrun];clear hR ht hc hs hcnt B0 B1 B2 FR hp hps hrun;subst hvp;go_enter Tryz.func136,Tryz.ntmps136;go_wp2_with fail;refine wp_region_still_tail 9 (by kernel_rfl) (by kernel_rfl) ?_;simp only[zta,ztb,ztc,ztd]
 repeat still_step
 refine wpStill_nil ?_;change wpList _ _ _ _ _ w.drew;generalize w.drew=wd at*;go_wp2_with (first|(go_at_call 50;refine HL.out.mono ?_;rintro e w1 ⟨rfl,q1,q2⟩;have g1:=HG.out.trans q2;obtain⟨hf,d0,d2,k0,k1,k2,k3,k4⟩:=HB.out w1 q1 g1;have HQ:=zH (zA hf g1);clear q1 q2 g1 hf)|(go_at_call 129;refine HQ.out.1.mono ?_;rintro e w2 ⟨A2,v,rfl,p1,p2,p3,rfl⟩))
 trace_state
 go_ret;exact⟨A2,_,rfl,p1,HQ.out.2.trans p2,p3,rfl⟩
theorem k_turnsC (hR:Rep A σ w) (s:Nat) (c:Cal) (hc:σ.calls.getD s none=some c) (x:Trn) (l:List Trn) (r:Res) (hx:x.at_<σ.words.length) (hcnt:σ.count<4000000000000000000) (b0 b1 b2 b3 b4:Nat)
 (B0:ListBox A.L w b0 (x::l)) (B1:Box A.L w b1 (.pointer (some ⟨A.be,0,none⟩))) (B2:Box A.L w b2 (.pointer (some ⟨A.bt s,0,none⟩))) (B3:Box A.L w b3 (.pointer (some ⟨A.bc s,0,none⟩))) (B4:ResBox (kp A σ s) A.L w b4 r):
 Calls Tryz.prog 137 #[.pointer (some ⟨b0,0,none⟩),.pointer (some ⟨b1,0,none⟩),.pointer (some ⟨b2,0,none⟩),.pointer (some ⟨b3,0,none⟩),.pointer (some ⟨b4,0,none⟩)] w (Ran A w s (σ.run s (.turns (x::l) r))):=by
 obtain⟨vp,TR,FR,hp⟩:=B4;have hps:(kp A σ s).ps=c.r.pairs:=by show (σ.c s).r.pairs=_;rw[call_get hc]
 rw[hps] at hp;have hform:∃ a n cap,vp=.slice a n cap:=by
  rcases hp with ⟨h1,_⟩|⟨h1,_⟩
  · have hown:=hR.mem.all (.pairs s)
    rw[mem_pairs hc] at hown;obtain⟨a,cap,h2,_⟩:=Ow.own_form hown.1;exact⟨a,_,cap,h1.trans h2⟩
  · exact⟨none,0,0,h1⟩
 obtain⟨va,vn,vc,hvp⟩:=hform;obtain⟨lv,X0,R0⟩:=B0;obtain⟨a,n,cap,rfl,hlen,hcap,hmax,hrow⟩:=R0;rw[trnCs_length] at hlen;obtain rfl:n=l.length+1:=by simp at hlen;omega
 obtain⟨g,off,rfl,hlg,hltg,hcs⟩:=hrow.resolve_left (by omega);have c0:=X0.cell;have c1:=B1.cell;have c2:=B2.cell;have c3:=B3.cell;have e2:=hR.z2;have l0:w.cell? ⟨g,off,none⟩=some (zi (x.at_:Int)):=hcs 0 (by omega);have l1:w.cell? ⟨g,off+1,none⟩=some (zu (x.old:Int)):=hcs 1 (by omega);have l2:w.cell? ⟨g,off+2,none⟩=some (zu (x.new:Int)):=hcs 2 (by omega);obtain⟨r1,g1,f0⟩:=allocs1 hR #[zi (x.at_:Int),zu (x.old:Int),zu (x.new:Int)] 211;have y0:=f0.cell 0 (v:=zi (x.at_:Int)) rfl;have y1:=f0.cell 1 (v:=zu (x.old:Int)) rfl;have y2:=f0.cell 2 (v:=zu (x.new:Int)) rfl;have z1:=(B1.grow g1).cell;have ze:=r1.eng 2 (v:=.pointer (some ⟨A.ba,0,none⟩)) rfl;obtain⟨a',ha'⟩:∃ a',a'=if cap=1 then (some (⟨g,off,none⟩:Addr)) else some ⟨g,off+3,none⟩:=⟨_,rfl⟩
 have hsl:∀ w',(Instr.slice 209 (.slice (some ⟨g,off,none⟩) (l.length+1) cap) (some (zi 1)) none none).run Tryz.prog w'=.ok (.slice a' l.length (cap - 1)) w':=by
  intro w';have he:Tryz.prog.elem 209=211:=by kernel_rfl
  have hz:(sizeOf 211).run Tryz.prog w'=.ok 3 w':=by kernel_rfl
  rw[run_slice_l (P:=Tryz.prog) w' 209 (some ⟨g,off,none⟩) (l.length+1) cap (by kernel_rfl) .i64 1 (by decide) (by omega),he,hz,ha']
  by_cases h1:cap=1
  · simp[Result.andThen,sliced,h1]
  · simp[Result.andThen,sliced,h1,Addr.add]
 have HB : Hid (∀ σ' w2, Rep A σ' w2 → σ'.calls = σ.calls → Grow A.L w A.L w2 → w2.cell? ⟨b0, 0, none⟩ = some (.slice (some ⟨g, off, none⟩) (l.length + 1) cap) ∧ w2.cell? ⟨b1, 0, none⟩ = some (.pointer (some ⟨A.be, 0, none⟩)) ∧ w2.cell? ⟨b2, 0, none⟩ = some (.pointer (some ⟨A.bt s, 0, none⟩)) ∧ w2.cell? ⟨b3, 0, none⟩ = some (.pointer (some ⟨A.bc s, 0, none⟩)) ∧ w2.cell? ⟨b4, 0, none⟩ = some (zi (r.e : Int)) ∧ w2.cell? ⟨b4, 1, none⟩ = some (zi (r.value : Int)) ∧ w2.cell? ⟨b4, 2, none⟩ = some vp ∧ w2.cell? ⟨b4, 3, none⟩ = some (zi (r.over : Int)) ∧ w2.cell? ⟨b4, 4, none⟩ = some (zi (r.reason : Int)) ∧
     Calls Tryz.prog 109 #[.pointer (some ⟨A.be,0,none⟩),.pointer (some ⟨A.bt s,0,none⟩),.pointer (some ⟨A.bc s,0,none⟩),.slice a' l.length (cap - 1),.agg #[zi (r.e:Int),zi (r.value:Int),vp,zi (r.over:Int),zi (r.reason:Int)]] w2.drew (Tells A w2.drew s (σ',.turns l r))):=by
  intro σ' w2 q hcl gr;have fr:=FR.grow gr;have hrow':FRow A.L w2.drew 3 (.slice a' l.length (cap - 1)) (trnCs l):=by
   refine⟨_,_,_,rfl,trnCs_length l,by omega,by omega,?_⟩
   by_cases hc1:cap=1
   · exact .inl (by omega)
   refine .inr ⟨g,off+3,by rw[ha',if_neg hc1],hlg,Nat.lt_of_lt_of_le hltg gr.size,fun j hj=>?_⟩;rw[World.cell?_drew,World.cell?_of_block (w:=w) (a:=⟨g,off+3+j,none⟩) (gr.block g hltg hlg),show off+3+j=off+(3+j) by omega,hcs (3+j) (by omega)];simp[trnCs,Nat.add_comm 3 j]
  have hp':(vp=A.vpairs s∧r.pairs=(σ'.c s).r.pairs)∨(vp=.slice none 0 0∧r.pairs=[]):=by
   have e:σ'.c s=c:=by unfold St.c;rw[hcl,hc];rfl
   rw[e];exact hp
  exact⟨(X0.grow gr).cell,(B1.grow gr).cell,(B2.grow gr).cell,(B3.grow gr).cell,fr.cell 0 rfl,fr.cell 1 rfl,fr.cell 2 rfl,fr.cell 3 rfl,fr.cell 4 rfl,turns_any q.drew s l _ hrow' r vp hp'⟩
 clear ha';have HG:=zH (g1.trans (Grow.drew A.L (w.alloc (.cells #[zi (x.at_:Int),zu (x.old:Int),zu (x.new:Int)] 211))));have nl:¬ ((l.length:Int)+1≤0):=by omega
 have nl2:(0:Int)<(l.length:Int)+1:=by omega
 by_cases ho:x.old=0
 · have HL:=zH (store_any r1.drew x.at_ x.new hx hcnt)
   have hrun:σ.run s (.turns (x::l) r)=(σ.put x.at_ x.new,some (.turns l r)):=by simp only[St.run,if_pos ho]
   rw[hrun];have HB1:=zH (fun w2 q gr=>HB.out (σ.put x.at_ x.new) w2 q rfl gr);have d1:((x.old:Int)==0)=true:=by simpa using ho
   have d2:((x.old:Int)=0)=True:=by simpa using ho
   clear hR r1 g1 f0 hc hx hcnt X0 B1 B2 B3 FR hp hps hrun HB ho hlen hcap hmax hrow hcs c1 c2 c3 e2;generalize x.at_=xa at*;generalize x.old=xo at*;generalize x.new=xn at*;subst hvp;go_enter Tryz.func137,Tryz.ntmps137;go_wp2_with fail;generalize w.alloc _=w1 at*;refine wp_region_still_tail 8 (by kernel_rfl) (by kernel_rfl) ?_;simp only[zta,ztb,ztc,ztd]
   repeat still_step
   refine wpStill_nil ?_;change wpList _ _ _ _ _ w1.drew;generalize w1.drew=wd at*;go_wp2_with (go_at_call 50;refine HL.out.mono ?_;rintro e w2 ⟨rfl,q1,q2⟩;have gr:=HG.out.trans q2;obtain⟨d0,d1,d2,d3,k0,k1,k2,k3,k4,hf⟩:=HB1.out w2 q1 gr;have HQ:=zH (zA hf (gr.trans (Grow.drew _ _)));clear q1 q2 gr hf);refine wp_region_still_tail 6 (by kernel_rfl) (by kernel_rfl) ?_;simp only[zta,ztb,ztc,ztd]
   repeat still_step
   refine wpStill_nil ?_;change wpList _ _ _ _ _ w2.drew;generalize w2.drew=wd2 at*;go_wp2_with (go_at_call 109;refine HQ.out.1.mono ?_;rintro e w3 ⟨A2,v,rfl,p1,p2,p3,p4⟩);go_ret;exact⟨A2,v,rfl,p1,HQ.out.2.trans p2,p3,p4⟩
 · have HL:=zH (cas_any r1.drew x.at_ x.old x.new hx hcnt)
   have hrun:σ.run s (.turns (x::l) r)=(σ.cas x.at_ x.old x.new,some (.turns l r)):=by simp only[St.run,if_neg ho]
   rw[hrun];have HB1:=zH (fun w2 q gr=>HB.out (σ.cas x.at_ x.old x.new) w2 q (by unfold St.cas;split<;>rfl) gr);have d1:((x.old:Int)==0)=false:=by simpa using ho
   have d2:((x.old:Int)=0)=False:=by simpa using ho
   clear hR r1 g1 f0 hc hx hcnt X0 B1 B2 B3 FR hp hps hrun HB ho hlen hcap hmax hrow hcs c1 c2 c3 e2;generalize x.at_=xa at*;generalize x.old=xo at*;generalize x.new=xn at*;subst hvp;go_enter Tryz.func137,Tryz.ntmps137;go_wp2_with fail;generalize w.alloc _=w1 at*;refine wp_region_still_tail 10 (by kernel_rfl) (by kernel_rfl) ?_;simp only[zta,ztb,ztc,ztd]
   repeat still_step
   refine wpStill_nil ?_;change wpList _ _ _ _ _ w1.drew;generalize w1.drew=wd at*;go_wp2_with (go_at_call 48;refine HL.out.mono ?_;rintro e w2 ⟨rfl,q1,q2⟩;have gr:=HG.out.trans q2;obtain⟨d0,d1,d2,d3,k0,k1,k2,k3,k4,hf⟩:=HB1.out w2 q1 gr;have HQ:=zH (zA hf (gr.trans (Grow.drew _ _)));clear q1 q2 gr hf);refine wp_region_still_tail 6 (by kernel_rfl) (by kernel_rfl) ?_;simp only[zta,ztb,ztc,ztd]
   repeat still_step
   refine wpStill_nil ?_;change wpList _ _ _ _ _ w2.drew;generalize w2.drew=wd2 at*;go_wp2_with (go_at_call 109;refine HQ.out.1.mono ?_;rintro e w3 ⟨A2,v,rfl,p1,p2,p3,p4⟩);go_ret;exact⟨A2,v,rfl,p1,HQ.out.2.trans p2,p3,p4⟩
theorem rd_le (x:Nat) (hx:x<18446744073709551616):(rd x).2<9223372036854775808∧IntKind.i64.wrap ((rd x).2:Int)=((rd x).2:Int):=by
 have h:(rd x).2<9223372036854775808:=by
  unfold rd
  repeat' split
  all_goals (first|(simp[tm] at *;omega)|(simp;done)|(simp[txnBit] at *;omega))
 exact⟨h,by rw[IntKind.wrap_i64];omega⟩
theorem k_svisit_y (hR:Rep A σ w) (key ahead link:Nat) (hv:VL σ link) (hw:σ.word (wslot link 0)<18446744073709551616) (h2:((rd (σ.word (wslot link 0))).1=2)=True) (hcnt:σ.count<4000000000000000000) (b0:Nat) (b1:Nat) (b2:Nat) (b3:Nat) (B0:Box A.L w b0 (.pointer (some ⟨A.be,0,none⟩))) (B1:Box A.L w b1 (zu (link:Int))) (B2:Box A.L w b2 (zi (key:Int))) (B3:Box A.L w b3 (zu (ahead:Int))):
 Calls Tryz.prog 168 #[.pointer (some ⟨b0,0,none⟩),.pointer (some ⟨b1,0,none⟩),.pointer (some ⟨b2,0,none⟩),.pointer (some ⟨b3,0,none⟩)] w (SRan A σ w (σ.sweepRun (.visit key ahead link))):=by
 have c0:=B0.cell;have c1:=B1.cell;have c2:=B2.cell;have c3:=B3.cell;have e2:=hR.z2;have hsl:=hR.sl;have HS:=zH (slot_at link 0 0 rfl hv.lo (by have:=hv.hi;omega) hv.u (by omega));have HRD:=zH (rd_any (σ.word (wslot link 0)) hw);have hrn:=rd_le (σ.word (wslot link 0)) hw;have HL:Hid (∀ w',Rep A σ w'→Calls Tryz.prog 45 #[.pointer (some ⟨A.ba,0,none⟩),zi (((wslot link 0:Nat):Int))] w' (Did A w' σ.tick (zu (σ.word (wslot link 0):Int)))):=fun w' r=>load_i r (wslot link 0) (((wslot link 0:Nat):Int)) rfl (wslot_lt r hv.lo hv.hi (by omega)) hcnt
 have HRd:Hid (Rep A σ w.drew):=hR.drew;have HKK:Hid (∀ w',Rep A σ.tick w'→Grow A.L w A.L w'→w'.cell? ⟨b0,0,none⟩=some (.pointer (some ⟨A.be,0,none⟩))∧w'.cell? ⟨b1,0,none⟩=some (zu (link:Int))∧w'.cell? ⟨b2,0,none⟩=some (zi (key:Int))∧w'.cell? ⟨b3,0,none⟩=some (zu (ahead:Int))∧w'.cell? ⟨A.be,2,none⟩=some (.pointer (some ⟨A.ba,0,none⟩))):=fun w' r g=>⟨(B0.grow g).cell,(B1.grow g).cell,(B2.grow g).cell,(B3.grow g).cell,r.eng 2 rfl⟩
 have HKS:Hid (∀ w' x,Rep A σ.tick w'→Grow A.L w A.L w'→(w'.setCell ⟨A.be,25,none⟩ x).cell? ⟨b0,0,none⟩=some (.pointer (some ⟨A.be,0,none⟩))∧(w'.setCell ⟨A.be,25,none⟩ x).cell? ⟨b1,0,none⟩=some (zu (link:Int))∧(w'.setCell ⟨A.be,25,none⟩ x).cell? ⟨b2,0,none⟩=some (zi (key:Int))∧(w'.setCell ⟨A.be,25,none⟩ x).cell? ⟨b3,0,none⟩=some (zu (ahead:Int))∧(w'.setCell ⟨A.be,25,none⟩ x).cell? ⟨A.be,2,none⟩=some (.pointer (some ⟨A.ba,0,none⟩))):=fun w' x r g=>let ⟨r',g'⟩:=r.sweepSet x .now;⟨(B0.grow (g.trans g')).cell,(B1.grow (g.trans g')).cell,(B2.grow (g.trans g')).cell,(B3.grow (g.trans g')).cell,r'.eng 2 rfl⟩
 have HM:Hid (∀ w',Rep A σ.tick w'→Calls Tryz.prog 169 #[.pointer (some ⟨A.be,0,none⟩),zi (key:Int),zu (ahead:Int),zu (link:Int),zi ((rd (σ.word (wslot link 0))).2:Int)] w' (STells A σ.tick w' (some (.maker key ahead link (rd (σ.word (wslot link 0))).2)))):=fun w' r=>smaker_any r key ahead link (rd (σ.word (wslot link 0))).2
 have HG:=zG A.L w;clear hR hcnt B0 B1 B2 B3;have HRES:σ.sweepRun (.visit key ahead link)=({σ.tick with sw:=some (.maker key ahead link (rd (σ.word (wslot link 0))).2)},false):=by simp only[St.sweepRun,h2];rfl
 rw[HRES];have f1:(((rd (σ.word (wslot link 0))).1:Int)=2)=True:=by have:=h2;simp at this ⊢;omega
 have f2:(((rd (σ.word (wslot link 0))).1:Int)==2)=true:=by have:=h2;simp at this ⊢;omega
 have n1:=hrn.2;clear hv hsl hw h2 hrn;generalize hkk:S.maker key ahead link (rd (σ.word (wslot link 0))).2=kk at*;clear hkk;generalize ((rd (σ.word (wslot link 0))).1:Int)=zk at*;generalize ((rd (σ.word (wslot link 0))).2:Int)=zn at*;generalize (σ.word (wslot link 0):Int)=hd at*;generalize ((wslot link 0:Nat):Int)=ix at*;go_enter Tryz.func168,Tryz.ntmps168;go_wp2_with fail
 go_region_held3 (fun w'=>w'.cell? ⟨b0,0,none⟩=some (.pointer (some ⟨A.be,0,none⟩))∧w'.cell? ⟨b1,0,none⟩=some (zu (link:Int))∧w'.cell? ⟨b2,0,none⟩=some (zi (key:Int))∧w'.cell? ⟨b3,0,none⟩=some (zu (ahead:Int))∧w'.cell? ⟨A.be,2,none⟩=some (.pointer (some ⟨A.ba,0,none⟩)))
  (first|exact⟨c0,c1,c2,c3,e2⟩|assumption|go_keep|exact HKK.out _ (by assumption) (by assumption))
  (first|(go_at_call 37;refine (HS.out _).mono ?_;rintro e w9 ⟨rfl,rfl⟩)|(go_at_call 45;refine (HL.out _ HRd.out).mono ?_;rintro e w1 ⟨rfl,q1,q2⟩;have q4:=HG.out.trans q2))
 have HQ:=zH (zA q1 q4);clear q1 q2 q4;go_wp2_with (go_at_call 69;refine (HRD.out _).mono ?_;rintro e w3 ⟨rfl,hb⟩;have q5:=(HQ.out.1.below hb).alloc (Obj.cells #[zi zk,zu zn] 170);have q6:=(HQ.out.2.trans (Grow.below hb)).trans (Grow.alloc _ _ (Obj.cells #[zi zk,zu zn] 170));have fx:=fix_next (HQ.out.1.below hb).mem.fresh (Obj.cells #[zi zk,zu zn] 170) rfl;have HFX:=zH fx;clear fx hb);generalize hw4:w3.alloc (Obj.cells #[zi zk,zu zn] 170)=w4 at*;obtain⟨d0,d1,d2,d3,d9⟩:=HKK.out _ q5 q6;have d8:w4.cell? ⟨w3.heap.size,1,none⟩=some (zu zn):=HFX.out.cell 1 rfl;have HQ1:=zH q5.drew;have HG1:=zH (q6.trans (Grow.drew _ _));have HK4:Hid (∀ w',Rep A σ.tick w'→Grow A.L w A.L w'→Grow A.L w4 A.L w'→w'.cell? ⟨b0,0,none⟩=some (.pointer (some ⟨A.be,0,none⟩))∧w'.cell? ⟨b1,0,none⟩=some (zu (link:Int))∧w'.cell? ⟨b2,0,none⟩=some (zi (key:Int))∧w'.cell? ⟨b3,0,none⟩=some (zu (ahead:Int))∧w'.cell? ⟨A.be,2,none⟩=some (.pointer (some ⟨A.ba,0,none⟩))∧w'.cell? ⟨w3.heap.size,1,none⟩=some (zu zn)):=fun w' r g g4=>by
  obtain⟨x0,x1,x2,x3,x9⟩:=HKK.out _ r g;exact⟨x0,x1,x2,x3,x9,(HFX.out.grow g4).cell 1 rfl⟩
 have HS4:Hid (∀ w' x,Rep A σ.tick w'→Grow A.L w A.L w'→Grow A.L w4 A.L w'→(w'.setCell ⟨A.be,25,none⟩ x).cell? ⟨b0,0,none⟩=some (.pointer (some ⟨A.be,0,none⟩))∧(w'.setCell ⟨A.be,25,none⟩ x).cell? ⟨b1,0,none⟩=some (zu (link:Int))∧(w'.setCell ⟨A.be,25,none⟩ x).cell? ⟨b2,0,none⟩=some (zi (key:Int))∧(w'.setCell ⟨A.be,25,none⟩ x).cell? ⟨b3,0,none⟩=some (zu (ahead:Int))∧(w'.setCell ⟨A.be,25,none⟩ x).cell? ⟨A.be,2,none⟩=some (.pointer (some ⟨A.ba,0,none⟩))∧(w'.setCell ⟨A.be,25,none⟩ x).cell? ⟨w3.heap.size,1,none⟩=some (zu zn)):=fun w' x r g g4=>by
  obtain⟨x0,x1,x2,x3,x9⟩:=HKS.out _ x r g;exact⟨x0,x1,x2,x3,x9,(HFX.out.grow (g4.trans (r.sweepSet x .now).2)).cell 1 rfl⟩
 go_region_held3 (fun w'=>w'.cell? ⟨b0,0,none⟩=some (.pointer (some ⟨A.be,0,none⟩))∧w'.cell? ⟨b1,0,none⟩=some (zu (link:Int))∧w'.cell? ⟨b2,0,none⟩=some (zi (key:Int))∧w'.cell? ⟨b3,0,none⟩=some (zu (ahead:Int))∧w'.cell? ⟨A.be,2,none⟩=some (.pointer (some ⟨A.ba,0,none⟩))∧w'.cell? ⟨w3.heap.size,1,none⟩=some (zu zn))
  (first|exact⟨d0,d1,d2,d3,d9,d8⟩|assumption|go_keep|exact HK4.out _ (by assumption) (by assumption) (by assumption)|exact HS4.out _ _ (by assumption) (by assumption) (by assumption))
  (first|(go_at_call 169;refine (HM.out _ HQ1.out).mono ?_;rintro e w2 ⟨v,rfl,p1,p2,p3⟩;obtain⟨fv,fb,fc,e3⟩:=SRep.form p3;subst e3;obtain⟨vo,y25⟩:∃ vo,w2.cell? ⟨A.be,25,none⟩=some vo:=⟨_,p1.eng 25 (v:=A.sv σ.tick.sw) rfl⟩;have z25:=p1.engF 25;have q7:=HG1.out.trans p2;have q8:=(Grow.drew A.L w4).trans p2;have HP:=zH p3;clear p2 p3))
 go_wp2_with fail;go_ret;obtain⟨A',a1,a2,a3,a4,a5⟩:=p1.sweepPut _ _ HP.out;exact⟨rfl,A',a1,a3,q7.trans a4,a5,fun hc=>hc.keep a2 rfl (q7.trans a4)⟩
theorem k_svisit_n (hR:Rep A σ w) (key ahead link:Nat) (hv:VL σ link) (hw:σ.word (wslot link 0)<18446744073709551616) (h2:((rd (σ.word (wslot link 0))).1=2)=False) (hcnt:σ.count<4000000000000000000) (b0:Nat) (b1:Nat) (b2:Nat) (b3:Nat) (B0:Box A.L w b0 (.pointer (some ⟨A.be,0,none⟩))) (B1:Box A.L w b1 (zu (link:Int))) (B2:Box A.L w b2 (zi (key:Int))) (B3:Box A.L w b3 (zu (ahead:Int))):
 Calls Tryz.prog 168 #[.pointer (some ⟨b0,0,none⟩),.pointer (some ⟨b1,0,none⟩),.pointer (some ⟨b2,0,none⟩),.pointer (some ⟨b3,0,none⟩)] w (SRan A σ w (σ.sweepRun (.visit key ahead link))):=by
 have c0:=B0.cell;have c1:=B1.cell;have c2:=B2.cell;have c3:=B3.cell;have e2:=hR.z2;have hsl:=hR.sl;have HS:=zH (slot_at link 0 0 rfl hv.lo (by have:=hv.hi;omega) hv.u (by omega));have HRD:=zH (rd_any (σ.word (wslot link 0)) hw);have hrn:=rd_le (σ.word (wslot link 0)) hw;have HL:Hid (∀ w',Rep A σ w'→Calls Tryz.prog 45 #[.pointer (some ⟨A.ba,0,none⟩),zi (((wslot link 0:Nat):Int))] w' (Did A w' σ.tick (zu (σ.word (wslot link 0):Int)))):=fun w' r=>load_i r (wslot link 0) (((wslot link 0:Nat):Int)) rfl (wslot_lt r hv.lo hv.hi (by omega)) hcnt
 have HRd:Hid (Rep A σ w.drew):=hR.drew;have HKK:Hid (∀ w',Rep A σ.tick w'→Grow A.L w A.L w'→w'.cell? ⟨b0,0,none⟩=some (.pointer (some ⟨A.be,0,none⟩))∧w'.cell? ⟨b1,0,none⟩=some (zu (link:Int))∧w'.cell? ⟨b2,0,none⟩=some (zi (key:Int))∧w'.cell? ⟨b3,0,none⟩=some (zu (ahead:Int))∧w'.cell? ⟨A.be,2,none⟩=some (.pointer (some ⟨A.ba,0,none⟩))):=fun w' r g=>⟨(B0.grow g).cell,(B1.grow g).cell,(B2.grow g).cell,(B3.grow g).cell,r.eng 2 rfl⟩
 have HKS:Hid (∀ w' x,Rep A σ.tick w'→Grow A.L w A.L w'→(w'.setCell ⟨A.be,25,none⟩ x).cell? ⟨b0,0,none⟩=some (.pointer (some ⟨A.be,0,none⟩))∧(w'.setCell ⟨A.be,25,none⟩ x).cell? ⟨b1,0,none⟩=some (zu (link:Int))∧(w'.setCell ⟨A.be,25,none⟩ x).cell? ⟨b2,0,none⟩=some (zi (key:Int))∧(w'.setCell ⟨A.be,25,none⟩ x).cell? ⟨b3,0,none⟩=some (zu (ahead:Int))∧(w'.setCell ⟨A.be,25,none⟩ x).cell? ⟨A.be,2,none⟩=some (.pointer (some ⟨A.ba,0,none⟩))):=fun w' x r g=>let ⟨r',g'⟩:=r.sweepSet x .now;⟨(B0.grow (g.trans g')).cell,(B1.grow (g.trans g')).cell,(B2.grow (g.trans g')).cell,(B3.grow (g.trans g')).cell,r'.eng 2 rfl⟩
 have HM:Hid (∀ w',Rep A σ.tick w'→Calls Tryz.prog 170 #[.pointer (some ⟨A.be,0,none⟩),zi (key:Int),zu (ahead:Int),zu (link:Int),zu (σ.word (wslot link 0):Int)] w' (STells A σ.tick w' (some (.garbage key ahead link (σ.word (wslot link 0)))))):=fun w' r=>sgarbage_any r key ahead link (σ.word (wslot link 0))
 have HG:=zG A.L w;clear hR hcnt B0 B1 B2 B3;have HRES:σ.sweepRun (.visit key ahead link)=({σ.tick with sw:=some (.garbage key ahead link (σ.word (wslot link 0)))},false):=by simp only[St.sweepRun,h2];rfl
 rw[HRES];have f1:(((rd (σ.word (wslot link 0))).1:Int)=2)=False:=by have:=h2;simp at this ⊢;omega
 have f2:(((rd (σ.word (wslot link 0))).1:Int)==2)=false:=by have:=h2;simp at this ⊢;omega
 have n1:=hrn.2;clear hv hsl hw h2 hrn;generalize hkk:S.garbage key ahead link (σ.word (wslot link 0))=kk at*;clear hkk;generalize ((rd (σ.word (wslot link 0))).1:Int)=zk at*;generalize ((rd (σ.word (wslot link 0))).2:Int)=zn at*;generalize (σ.word (wslot link 0):Int)=hd at*;generalize ((wslot link 0:Nat):Int)=ix at*;go_enter Tryz.func168,Tryz.ntmps168;go_wp2_with fail
 go_region_held3 (fun w'=>w'.cell? ⟨b0,0,none⟩=some (.pointer (some ⟨A.be,0,none⟩))∧w'.cell? ⟨b1,0,none⟩=some (zu (link:Int))∧w'.cell? ⟨b2,0,none⟩=some (zi (key:Int))∧w'.cell? ⟨b3,0,none⟩=some (zu (ahead:Int))∧w'.cell? ⟨A.be,2,none⟩=some (.pointer (some ⟨A.ba,0,none⟩)))
  (first|exact⟨c0,c1,c2,c3,e2⟩|assumption|go_keep|exact HKK.out _ (by assumption) (by assumption))
  (first|(go_at_call 37;refine (HS.out _).mono ?_;rintro e w9 ⟨rfl,rfl⟩)|(go_at_call 45;refine (HL.out _ HRd.out).mono ?_;rintro e w1 ⟨rfl,q1,q2⟩;have q4:=HG.out.trans q2))
 have HQ:=zH (zA q1 q4);clear q1 q2 q4;go_wp2_with (go_at_call 69;refine (HRD.out _).mono ?_;rintro e w3 ⟨rfl,hb⟩;have q5:=(HQ.out.1.below hb).alloc (Obj.cells #[zi zk,zu zn] 170);have q6:=(HQ.out.2.trans (Grow.below hb)).trans (Grow.alloc _ _ (Obj.cells #[zi zk,zu zn] 170));have fx:=fix_next (HQ.out.1.below hb).mem.fresh (Obj.cells #[zi zk,zu zn] 170) rfl;have HFX:=zH fx;clear fx hb);generalize hw4:w3.alloc (Obj.cells #[zi zk,zu zn] 170)=w4 at*;obtain⟨d0,d1,d2,d3,d9⟩:=HKK.out _ q5 q6;have d8:w4.cell? ⟨w3.heap.size,1,none⟩=some (zu zn):=HFX.out.cell 1 rfl;have HQ1:=zH q5.drew;have HG1:=zH (q6.trans (Grow.drew _ _));have HK4:Hid (∀ w',Rep A σ.tick w'→Grow A.L w A.L w'→Grow A.L w4 A.L w'→w'.cell? ⟨b0,0,none⟩=some (.pointer (some ⟨A.be,0,none⟩))∧w'.cell? ⟨b1,0,none⟩=some (zu (link:Int))∧w'.cell? ⟨b2,0,none⟩=some (zi (key:Int))∧w'.cell? ⟨b3,0,none⟩=some (zu (ahead:Int))∧w'.cell? ⟨A.be,2,none⟩=some (.pointer (some ⟨A.ba,0,none⟩))∧w'.cell? ⟨w3.heap.size,1,none⟩=some (zu zn)):=fun w' r g g4=>by
  obtain⟨x0,x1,x2,x3,x9⟩:=HKK.out _ r g;exact⟨x0,x1,x2,x3,x9,(HFX.out.grow g4).cell 1 rfl⟩
 have HS4:Hid (∀ w' x,Rep A σ.tick w'→Grow A.L w A.L w'→Grow A.L w4 A.L w'→(w'.setCell ⟨A.be,25,none⟩ x).cell? ⟨b0,0,none⟩=some (.pointer (some ⟨A.be,0,none⟩))∧(w'.setCell ⟨A.be,25,none⟩ x).cell? ⟨b1,0,none⟩=some (zu (link:Int))∧(w'.setCell ⟨A.be,25,none⟩ x).cell? ⟨b2,0,none⟩=some (zi (key:Int))∧(w'.setCell ⟨A.be,25,none⟩ x).cell? ⟨b3,0,none⟩=some (zu (ahead:Int))∧(w'.setCell ⟨A.be,25,none⟩ x).cell? ⟨A.be,2,none⟩=some (.pointer (some ⟨A.ba,0,none⟩))∧(w'.setCell ⟨A.be,25,none⟩ x).cell? ⟨w3.heap.size,1,none⟩=some (zu zn)):=fun w' x r g g4=>by
  obtain⟨x0,x1,x2,x3,x9⟩:=HKS.out _ x r g;exact⟨x0,x1,x2,x3,x9,(HFX.out.grow (g4.trans (r.sweepSet x .now).2)).cell 1 rfl⟩
 go_region_held3 (fun w'=>w'.cell? ⟨b0,0,none⟩=some (.pointer (some ⟨A.be,0,none⟩))∧w'.cell? ⟨b1,0,none⟩=some (zu (link:Int))∧w'.cell? ⟨b2,0,none⟩=some (zi (key:Int))∧w'.cell? ⟨b3,0,none⟩=some (zu (ahead:Int))∧w'.cell? ⟨A.be,2,none⟩=some (.pointer (some ⟨A.ba,0,none⟩))∧w'.cell? ⟨w3.heap.size,1,none⟩=some (zu zn))
  (first|exact⟨d0,d1,d2,d3,d9,d8⟩|assumption|go_keep|exact HK4.out _ (by assumption) (by assumption) (by assumption)|exact HS4.out _ _ (by assumption) (by assumption) (by assumption))
  (first|(go_at_call 170;refine (HM.out _ HQ1.out).mono ?_;rintro e w2 ⟨v,rfl,p1,p2,p3⟩;obtain⟨fv,fb,fc,e3⟩:=SRep.form p3;subst e3;obtain⟨vo,y25⟩:∃ vo,w2.cell? ⟨A.be,25,none⟩=some vo:=⟨_,p1.eng 25 (v:=A.sv σ.tick.sw) rfl⟩;have z25:=p1.engF 25;have q7:=HG1.out.trans p2;have q8:=(Grow.drew A.L w4).trans p2;have HP:=zH p3;clear p2 p3))
 go_wp2_with fail;go_ret;obtain⟨A',a1,a2,a3,a4,a5⟩:=p1.sweepPut _ _ HP.out;exact⟨rfl,A',a1,a3,q7.trans a4,a5,fun hc=>hc.keep a2 rfl (q7.trans a4)⟩
end Go.Proofs.YtmgghljjjpcgkaaGreat.Em
