import Derived.Test.YtmgghljjjpcgkaaGreatQz9
import Derived.Test.YtmgghljjjpcgkaaGreatQz13
import Derived.Test.YtmgghljjjpcgkaaGreatQz14
namespace Go.Proofs.YtmgghljjjpcgkaaGreat.Em
open Go.ChangeShapes Go.WideShapes Go.ChangeAt Go.RowKit En
set_option linter.unusedVariables false
set_option linter.unusedSimpArgs false
set_option maxRecDepth 100000
set_option maxHeartbeats 1600000
variable {A:Book} {σ:St} {w:World}
theorem get_none (hR:Rep A σ w) (s:Nat) (t:Txn) (ht:σ.txns.getD s none=some t) (c:Cal) (hc:σ.calls.getD s none=some c) (hx:t.cell c.op.key=none):
 Calls Tryz.prog 77 #[.pointer (some ⟨A.be,0,none⟩),.pointer (some ⟨A.bt s,0,none⟩),.pointer (some ⟨A.bc s,0,none⟩)] w (Tells A w s (σ,.start ⟨c.op.key,t.begin_,.get⟩)):=by
 obtain⟨r3,g3,_,_,_⟩:=allocs3 hR #[.pointer (some ⟨A.be,0,none⟩)] 31 #[.pointer (some ⟨A.bt s,0,none⟩)] 86 #[.pointer (some ⟨A.bc s,0,none⟩)] 88;have k1:=r3.call hc 1 (v:=zi (c.op.key:Int)) rfl;obtain⟨r4,g4,f0,f1,f2,f3⟩:=allocs4 hR #[.pointer (some ⟨A.be,0,none⟩)] 31 #[.pointer (some ⟨A.bt s,0,none⟩)] 86 #[.pointer (some ⟨A.bc s,0,none⟩)] 88 #[zi (c.op.key:Int)] 3;have a0:=f0.cell 0 (v:=.pointer (some ⟨A.be,0,none⟩)) rfl;have a1:=f1.cell 0 (v:=.pointer (some ⟨A.bt s,0,none⟩)) rfl;have a2:=f2.cell 0 (v:=.pointer (some ⟨A.bc s,0,none⟩)) rfl;have a3:=f3.cell 0 (v:=zi (c.op.key:Int)) rfl;have a7:=r4.txn ht 7 (v:=.map (some (A.bm s))) rfl;have hlk:=fun n=>lookup_run (r4.drewN n) ht c.op.key
 have hpx:A.px s t c.op.key=.pointer none:=by unfold Book.px;rw[hx];rfl
 rw[hpx] at hlk;have ab:=r4.txn ht 3 (v:=zu (t.begin_:Int)) rfl;have gd:=fun n=>(Grow.drewN A.L ((((w.alloc (.cells #[.pointer (some ⟨A.be,0,none⟩)] 31)).alloc (.cells #[.pointer (some ⟨A.bt s,0,none⟩)] 86)).alloc (.cells #[.pointer (some ⟨A.bc s,0,none⟩)] 88)).alloc (.cells #[zi (c.op.key:Int)] 3)) n).trans (Grow.drew A.L _)
 have HF:=zH (fun n=>zA (find_any (r4.drewN n).drew s c.op.key t.begin_ (.func (.func 96) #[] #[.pointer (some ⟨w.heap.size+1,0,none⟩),.pointer (some ⟨w.heap.size+1+1+1,0,none⟩),.pointer (some ⟨w.heap.size,0,none⟩),.pointer (some ⟨w.heap.size+1+1,0,none⟩)]) .get ⟨_,_,_,_,rfl,f1.box.grow (gd n),f3.box.grow (gd n),f0.box.grow (gd n),f2.box.grow (gd n)⟩) (g4.trans (gd n)));clear hR ht hc hx r3 g3 r4 g4 f0 f1 f2 f3 gd hpx;generalize c.op.key=key at*;generalize t.begin_=bg at*;go_enter Tryz.func77,Tryz.ntmps77;go_wp2_with fail;generalize (((w.alloc _).alloc _).alloc _).alloc _=w4 at*
 go_quiet (fail)
 go_wp2_with fail;generalize hw5:w4.drewN _=w5;have e0:w5.cell? ⟨w.heap.size,0,none⟩=some (.pointer (some ⟨A.be,0,none⟩)):=by rw[←hw5];exact a0
 have e1:w5.cell? ⟨w.heap.size+1,0,none⟩=some (.pointer (some ⟨A.bt s,0,none⟩)):=by rw[←hw5];exact a1
 have e3:w5.cell? ⟨w.heap.size+1+1+1,0,none⟩=some (zi (key:Int)):=by rw[←hw5];exact a3
 have eb:w5.cell? ⟨A.bt s,3,none⟩=some (zu (bg:Int)):=by rw[←hw5];exact ab
 have HF0:∀ n,w4.drewN n=w5→Calls Tryz.prog 95 #[.pointer (some ⟨A.be,0,none⟩),.pointer (some ⟨A.bt s,0,none⟩),zi (key:Int),zu (bg:Int),.func (.func 96) #[] #[.pointer (some ⟨w.heap.size+1,0,none⟩),.pointer (some ⟨w.heap.size+1+1+1,0,none⟩),.pointer (some ⟨w.heap.size,0,none⟩),.pointer (some ⟨w.heap.size+1+1,0,none⟩)]] w5.drew (Tells A w5.drew s (σ,.start ⟨key,bg,.get⟩))∧Grow A.L w A.L w5.drew:=fun n h=>by rw[←h];exact HF.out n
 have HF1:=HF0 _ hw5;have HF2:=zH HF1;clear a0 a1 a2 a3 a7 ab hlk HF HF0 HF1 hw5;refine wp_region_still_tail 8 (by kernel_rfl) (by kernel_rfl) ?_;simp only[zta,ztb,ztc,ztd]
 repeat still_step
 refine wpStill_nil ?_;go_wp2_with (go_at_call 95;refine (HF2.out.1).mono ?_;rintro e w2 ⟨A2,v,rfl,p1,p2,p3,p4⟩);go_ret;exact⟨A2,v,rfl,p1,HF2.out.2.trans p2,p3,p4⟩
theorem change_some (hR:Rep A σ w) (s:Nat) (t:Txn) (ht:σ.txns.getD s none=some t) (c:Cal) (hc:σ.calls.getD s none=some c) (hmp:A.mp=0) (x:Cel) (hx:t.cell c.op.key=some x) (h1:1≤t.id) (h2:t.id≤65535) (hp:PoolOk σ):
 Calls Tryz.prog 81 #[.pointer (some ⟨A.be,0,none⟩),.pointer (some ⟨A.bt s,0,none⟩),.pointer (some ⟨A.bc s,0,none⟩)] w (Tells A w s (againK σ s t x c.op.kind)):=by
 obtain⟨r3,g3,_,_,_⟩:=allocs3 hR #[.pointer (some ⟨A.be,0,none⟩)] 31 #[.pointer (some ⟨A.bt s,0,none⟩)] 86 #[.pointer (some ⟨A.bc s,0,none⟩)] 88;have k1:=r3.call hc 1 (v:=zi (c.op.key:Int)) rfl;obtain⟨r4,g4,f0,f1,f2,f3⟩:=allocs4 hR #[.pointer (some ⟨A.be,0,none⟩)] 31 #[.pointer (some ⟨A.bt s,0,none⟩)] 86 #[.pointer (some ⟨A.bc s,0,none⟩)] 88 #[zi (c.op.key:Int)] 3;have a0:=f0.cell 0 (v:=.pointer (some ⟨A.be,0,none⟩)) rfl;have a1:=f1.cell 0 (v:=.pointer (some ⟨A.bt s,0,none⟩)) rfl;have a2:=f2.cell 0 (v:=.pointer (some ⟨A.bc s,0,none⟩)) rfl;have a3:=f3.cell 0 (v:=zi (c.op.key:Int)) rfl;have a7:=r4.txn ht 7 (v:=.map (some (A.bm s))) rfl;have hlk:=fun n=>lookup_run (r4.drewN n) ht c.op.key
 have hpx:A.px s t c.op.key=.pointer (some ⟨A.bx s c.op.key,0,none⟩):=by unfold Book.px;rw[hx];rfl
 rw[hpx] at hlk;have HW:Hid (∀ n w5,((((w.alloc (.cells #[.pointer (some ⟨A.be,0,none⟩)] 31)).alloc (.cells #[.pointer (some ⟨A.bt s,0,none⟩)] 86)).alloc (.cells #[.pointer (some ⟨A.bc s,0,none⟩)] 88)).alloc (.cells #[zi (c.op.key:Int)] 3)).drewN n=w5→Calls Tryz.prog 110 #[.pointer (some ⟨A.be,0,none⟩),.pointer (some ⟨A.bt s,0,none⟩),.pointer (some ⟨A.bc s,0,none⟩),.pointer (some ⟨A.bx s c.op.key,0,none⟩)] w5 (Tells A w5 s (againK σ s t x c.op.kind))∧Grow A.L w A.L w5):=by
  rintro n w5 rfl;exact⟨again_tells (r4.drewN n) s t ht c hc hmp x hx h1 h2 hp,g4.trans (Grow.drewN _ _ n)⟩
 clear hR ht hc hx r3 g3 r4 g4 f0 f1 f2 f3 hpx hmp h1 h2 hp;generalize againK σ s t x c.op.kind=res at*;generalize A.bx s c.op.key=kx at*;generalize c.op.key=key at*;go_enter Tryz.func81,Tryz.ntmps81;go_wp2_with fail;generalize hw4:(((w.alloc _).alloc _).alloc _).alloc _=w4 at*
 go_quiet (fail)
 generalize hw5:w4.drewN _=w5;have e0:w5.cell? ⟨w.heap.size,0,none⟩=some (.pointer (some ⟨A.be,0,none⟩)):=by rw[←hw5];exact a0
 have e1:w5.cell? ⟨w.heap.size+1,0,none⟩=some (.pointer (some ⟨A.bt s,0,none⟩)):=by rw[←hw5];exact a1
 have e2:w5.cell? ⟨w.heap.size+1+1,0,none⟩=some (.pointer (some ⟨A.bc s,0,none⟩)):=by rw[←hw5];exact a2
 have H5:=zH (HW.out _ w5 hw5);clear a0 a1 a2 a3 a7 hlk hw5;go_wp2_with (go_at_call 110;refine (H5.out.1).mono ?_;rintro e w2 ⟨A2,v,rfl,p1,p2,p3,p4⟩);go_ret;exact⟨A2,v,rfl,p1,H5.out.2.trans p2,p3,p4⟩
theorem get_gone (hR:Rep A σ w) (s:Nat) (t:Txn) (ht:σ.txns.getD s none=some t) (c:Cal) (hc:σ.calls.getD s none=some c) (x:Cel) (hx:t.cell c.op.key=some x) (hth:x.there=false):
 Calls Tryz.prog 77 #[.pointer (some ⟨A.be,0,none⟩),.pointer (some ⟨A.bt s,0,none⟩),.pointer (some ⟨A.bc s,0,none⟩)] w (Tells A w s (σ,.fin {e:=11})):=by
 obtain⟨r3,g3,_,_,_⟩:=allocs3 hR #[.pointer (some ⟨A.be,0,none⟩)] 31 #[.pointer (some ⟨A.bt s,0,none⟩)] 86 #[.pointer (some ⟨A.bc s,0,none⟩)] 88;have k1:=r3.call hc 1 (v:=zi (c.op.key:Int)) rfl;obtain⟨r4,g4,f0,f1,f2,f3⟩:=allocs4 hR #[.pointer (some ⟨A.be,0,none⟩)] 31 #[.pointer (some ⟨A.bt s,0,none⟩)] 86 #[.pointer (some ⟨A.bc s,0,none⟩)] 88 #[zi (c.op.key:Int)] 3;have a0:=f0.cell 0 (v:=.pointer (some ⟨A.be,0,none⟩)) rfl;have a1:=f1.cell 0 (v:=.pointer (some ⟨A.bt s,0,none⟩)) rfl;have a2:=f2.cell 0 (v:=.pointer (some ⟨A.bc s,0,none⟩)) rfl;have a3:=f3.cell 0 (v:=zi (c.op.key:Int)) rfl;have a7:=r4.txn ht 7 (v:=.map (some (A.bm s))) rfl;have hlk:=fun n=>lookup_run (r4.drewN n) ht c.op.key
 have hpx:A.px s t c.op.key=.pointer (some ⟨A.bx s c.op.key,0,none⟩):=by unfold Book.px;rw[hx];rfl
 rw[hpx] at hlk;have HW:Hid (∀ n w5,((((w.alloc (.cells #[.pointer (some ⟨A.be,0,none⟩)] 31)).alloc (.cells #[.pointer (some ⟨A.bt s,0,none⟩)] 86)).alloc (.cells #[.pointer (some ⟨A.bc s,0,none⟩)] 88)).alloc (.cells #[zi (c.op.key:Int)] 3)).drewN n=w5→w5.cell? ⟨A.bx s c.op.key,2,none⟩=some (.bool false)∧Calls Tryz.prog 94 #[.pointer (some ⟨A.be,0,none⟩),.pointer (some ⟨A.bc s,0,none⟩),.agg #[zi 11,zi 0,.slice none 0 0,zi 0,zi 0]] w5 (Tells A w5 s (σ,.fin {e:=11}))∧Grow A.L w A.L w5):=by
  rintro n w5 rfl;obtain⟨_,_,x2⟩:=(r4.drewN n).cel ht hx;rw[hth] at x2;exact⟨x2,ends_at (r4.drewN n) s {e:=11} 11 0 0 0 (.slice none 0 0) rfl (.inr ⟨rfl,rfl⟩),g4.trans (Grow.drewN _ _ n)⟩
 clear hR ht hc hx r3 g3 r4 g4 f0 f1 f2 f3 hpx hth;generalize A.bx s c.op.key=kx at*;generalize c.op.key=key at*;go_enter Tryz.func77,Tryz.ntmps77;go_wp2_with fail;generalize hw4:(((w.alloc _).alloc _).alloc _).alloc _=w4 at*
 go_quiet (fail)
 generalize hw5:w4.drewN _=w5;have e0:w5.cell? ⟨w.heap.size,0,none⟩=some (.pointer (some ⟨A.be,0,none⟩)):=by rw[←hw5];exact a0
 have e1:w5.cell? ⟨w.heap.size+1,0,none⟩=some (.pointer (some ⟨A.bt s,0,none⟩)):=by rw[←hw5];exact a1
 have e2:w5.cell? ⟨w.heap.size+1+1,0,none⟩=some (.pointer (some ⟨A.bc s,0,none⟩)):=by rw[←hw5];exact a2
 obtain⟨x2,he,gg⟩:=HW.out _ w5 hw5;have H5:=zH (zA he gg);clear he gg;clear a0 a1 a2 a3 a7 hlk hw5;go_wp2_with (go_at_call 94;refine (H5.out.1).mono ?_;rintro e w2 ⟨A2,v,rfl,p1,p2,p3,p4⟩);go_ret;exact⟨A2,v,rfl,p1,H5.out.2.trans p2,p3,p4⟩
theorem get_there (hR:Rep A σ w) (s:Nat) (t:Txn) (ht:σ.txns.getD s none=some t) (c:Cal) (hc:σ.calls.getD s none=some c) (x:Cel) (hx:t.cell c.op.key=some x) (hth:x.there=true) (hv:VL σ x.own):
 Calls Tryz.prog 77 #[.pointer (some ⟨A.be,0,none⟩),.pointer (some ⟨A.bt s,0,none⟩),.pointer (some ⟨A.bc s,0,none⟩)] w (Tells A w s (σ,.fin {value:=σ.valueOf x.own})):=by
 obtain⟨r3,g3,_,_,_⟩:=allocs3 hR #[.pointer (some ⟨A.be,0,none⟩)] 31 #[.pointer (some ⟨A.bt s,0,none⟩)] 86 #[.pointer (some ⟨A.bc s,0,none⟩)] 88;have k1:=r3.call hc 1 (v:=zi (c.op.key:Int)) rfl;obtain⟨r4,g4,f0,f1,f2,f3⟩:=allocs4 hR #[.pointer (some ⟨A.be,0,none⟩)] 31 #[.pointer (some ⟨A.bt s,0,none⟩)] 86 #[.pointer (some ⟨A.bc s,0,none⟩)] 88 #[zi (c.op.key:Int)] 3;have a0:=f0.cell 0 (v:=.pointer (some ⟨A.be,0,none⟩)) rfl;have a1:=f1.cell 0 (v:=.pointer (some ⟨A.bt s,0,none⟩)) rfl;have a2:=f2.cell 0 (v:=.pointer (some ⟨A.bc s,0,none⟩)) rfl;have a3:=f3.cell 0 (v:=zi (c.op.key:Int)) rfl;have a7:=r4.txn ht 7 (v:=.map (some (A.bm s))) rfl;have hlk:=fun n=>lookup_run (r4.drewN n) ht c.op.key
 have hpx:A.px s t c.op.key=.pointer (some ⟨A.bx s c.op.key,0,none⟩):=by unfold Book.px;rw[hx];rfl
 rw[hpx] at hlk;have HW:Hid (∀ n w5,((((w.alloc (.cells #[.pointer (some ⟨A.be,0,none⟩)] 31)).alloc (.cells #[.pointer (some ⟨A.bt s,0,none⟩)] 86)).alloc (.cells #[.pointer (some ⟨A.bc s,0,none⟩)] 88)).alloc (.cells #[zi (c.op.key:Int)] 3)).drewN n=w5→w5.cell? ⟨A.bx s c.op.key,2,none⟩=some (.bool true)∧w5.cell? ⟨A.bx s c.op.key,0,none⟩=some (zu (x.own:Int))∧Calls Tryz.prog 39 #[.pointer (some ⟨A.be,0,none⟩),zu (x.own:Int)] w5.drew (fun e w'=>e=.returned (.pointer (some ⟨A.bv,2*slotOf x.own,none⟩))∧w'=w5.drew)∧w5.drew.cell? ⟨A.bv,2*slotOf x.own+1,none⟩=some (zi (σ.valueOf x.own:Int))∧Calls Tryz.prog 94 #[.pointer (some ⟨A.be,0,none⟩),.pointer (some ⟨A.bc s,0,none⟩),.agg #[zi 0,zi (σ.valueOf x.own:Int),.slice none 0 0,zi 0,zi 0]] w5.drew (Tells A w5.drew s (σ,.fin {value:=σ.valueOf x.own}))∧Grow A.L w A.L w5.drew):=by
  rintro n w5 rfl;obtain⟨x0,_,x2⟩:=(r4.drewN n).cel ht hx;rw[hth] at x2;have q:=(r4.drewN n).drew;exact⟨x2,x0,flip (data_any q x.own hv.lo hv.hi hv.u),(q.val (slotOf_lt hv)).2,ends_at q s {value:=σ.valueOf x.own} 0 (σ.valueOf x.own:Int) 0 0 (.slice none 0 0) rfl (.inr ⟨rfl,rfl⟩),g4.trans ((Grow.drewN _ _ n).trans (Grow.drew _ _))⟩
 clear hR ht hc hx r3 g3 r4 g4 f0 f1 f2 f3 hpx hth hv;generalize σ.valueOf x.own=va at*;generalize A.bx s c.op.key=kx at*;generalize c.op.key=key at*;generalize 2*slotOf x.own=iv at*;generalize x.own=ow at*;go_enter Tryz.func77,Tryz.ntmps77;go_wp2_with fail;generalize hw4:(((w.alloc _).alloc _).alloc _).alloc _=w4 at*
 go_quiet (fail)
 generalize hw5:w4.drewN _=w5;have e0:w5.cell? ⟨w.heap.size,0,none⟩=some (.pointer (some ⟨A.be,0,none⟩)):=by rw[←hw5];exact a0
 have e1:w5.cell? ⟨w.heap.size+1,0,none⟩=some (.pointer (some ⟨A.bt s,0,none⟩)):=by rw[←hw5];exact a1
 have e2:w5.cell? ⟨w.heap.size+1+1,0,none⟩=some (.pointer (some ⟨A.bc s,0,none⟩)):=by rw[←hw5];exact a2
 obtain⟨x2,x0,hd,hv,he,gg⟩:=HW.out _ w5 hw5;have HD:=zH hd;have H5:=zH (zA he gg);clear hd he gg;clear a0 a1 a2 a3 a7 hlk hw5;go_wp2_with fail;refine wp_region_still_tail 12 (by kernel_rfl) (by kernel_rfl) ?_;simp only[zta,ztb,ztc,ztd]
 repeat still_step
 still_call HD.out
 repeat still_step
 refine wpStill_nil ?_;change wpList _ _ _ _ _ w5.drew;generalize w5.drew=wd at*;go_wp2_with (go_at_call 94;refine (H5.out.1).mono ?_;rintro e w2 ⟨A2,v,rfl,p1,p2,p3,p4⟩);go_ret;exact⟨A2,v,rfl,p1,H5.out.2.trans p2,p3,p4⟩
theorem k_judge (hR:Rep A σ w) (s:Nat) (t:Txn) (ht:σ.txns.getD s none=some t) (i l at_ key link b0 b1 b2 b3 b4:Nat) (B0:SeenBox A.L w b0 l) (B1:Box A.L w b1 (.pointer (some ⟨A.be,0,none⟩))) (B2:Box A.L w b2 (.pointer (some ⟨A.bt s,0,none⟩))) (B3:Box A.L w b3 (.pointer (some ⟨A.bc s,0,none⟩))) (B4:Box A.L w b4 (zi (i:Int))) (hi:i+1≤t.reads.length) (hrl:t.reads.length<1000000):
 Calls Tryz.prog 133 #[zu (link:Int),.pointer (some ⟨b0,0,none⟩),.pointer (some ⟨b1,0,none⟩),.pointer (some ⟨b2,0,none⟩),.pointer (some ⟨b3,0,none⟩),.pointer (some ⟨b4,0,none⟩)] w (Tells A w s (σ.thn s ⟨key,at_,.judge i l⟩ link)):=by
 obtain⟨T0,k0,g0,F0⟩:=B0;have c0:=F0.cell 1 (v:=zu (l:Int)) rfl;have c1:=B1.cell;have c2:=B2.cell;have c3:=B3.cell;have c4:=B4.cell;have n1:IntKind.i64.wrap ((i:Int)+1)=(i:Int)+1:=by rw[IntKind.wrap_i64];omega
 have e1:σ.thn s ⟨key,at_,.judge i l⟩ link=if link≠l then (σ,.abort 14 3) else (σ,judgeK t (i+1)):=by simp only[St.thn,txn_get ht]
 rw[e1];have hj:Calls Tryz.prog 103 #[.pointer (some ⟨A.be,0,none⟩),.pointer (some ⟨A.bt s,0,none⟩),.pointer (some ⟨A.bc s,0,none⟩),zi ((i:Int)+1)] w (Tells A w s (σ,judgeK t (i+1))):=judge_any hR s t ht (i+1) hi hrl;have ha:Calls Tryz.prog 80 #[.pointer (some ⟨A.be,0,none⟩),.pointer (some ⟨A.bt s,0,none⟩),.pointer (some ⟨A.bc s,0,none⟩),zi 14,zi 3] w (Tells A w s (σ,.abort 14 3)):=abort_any hR s 14 3;have HJ:=zH hj;have HA:=zH ha;clear hj ha hR ht F0 B1 B2 B3 B4 hi hrl e1
 by_cases hl:link=l
 · rw[if_neg (fun h=>h hl)]
   obtain⟨fl1,fl2,fl3,fl4,fl5⟩:=zeT (x:=link) (c:=l) (ci:=(l:Int)) (by omega);clear hl;go_enter Tryz.func133,Tryz.ntmps133;go_wp2_with (go_at_call 103;refine HJ.out.mono ?_;rintro e w2 ⟨A2,v,rfl,p1,p2,p3,p4⟩);go_ret;exact⟨A2,v,rfl,p1,p2,p3,p4⟩
 · rw[if_pos hl]
   obtain⟨fl1,fl2,fl3,fl4,fl5⟩:=zeF (x:=link) (c:=l) (ci:=(l:Int)) (by omega);clear hl;go_enter Tryz.func133,Tryz.ntmps133;go_wp2_with (go_at_call 80;refine HA.out.mono ?_;rintro e w2 ⟨A2,v,rfl,p1,p2,p3,p4⟩);go_ret;exact⟨A2,v,rfl,p1,p2,p3,p4⟩
def TldP (A:Book) (w:World) (s:Nat) (σ':St):Ending→World→Prop:=fun e w'=>e=.returned (.tuple #[])∧∃ A',Rep A' σ' w'∧Grow A.L w A'.L w'∧Stay A A' s∧A'.bx=A.bx
theorem infoP:(Tryz.prog.info? 120).map (fun i=>(i.zero,i.size,i.bytes))=some (some (.agg #[zi 0,zi 0]),2,16):=by kernel_rfl
theorem pairCs_snoc (l:List (Nat×Nat)) (key n:Nat):pairCs (l++[(key,n)])=pairCs l++[zi (key:Int),zi (n:Int)]:=by simp[pairCs,two]
theorem tellP_any (hR:Rep A σ w) (s:Nat) (c:Cal) (hc:σ.calls.getD s none=some c) (key n b0 b1:Nat) (B0:Box A.L w b0 (.pointer (some ⟨A.bc s,0,none⟩))) (B1:Box A.L w b1 (zi (key:Int))) (hn:c.r.pairs.length<1000000):
 Calls Tryz.prog 98 #[zi (n:Int),.pointer (some ⟨b0,0,none⟩),.pointer (some ⟨b1,0,none⟩)] w (TldP A w s (σ.tell s key n)):=by
 have c0:=B0.cell;have c1:=B1.cell;have k7:w.cell? ⟨A.bc s,7,none⟩=some (A.vpairs s):=hR.call hc 7 rfl;obtain⟨r1,g1,_⟩:=allocs1 hR #[zi (key:Int),zi (n:Int)] 120;have hown:=r1.mem.all (.pairs s);rw[mem_pairs hc] at hown;have ho:(w.alloc (.cells #[zi (key:Int),zi (n:Int)] 120)).ownsRow 0 120 2 (A.vpairs s) c.r.pairs.length (pairCs c.r.pairs):=hown.1;obtain⟨av,capv,hv,_⟩:=Ow.own_form ho;have d0:(w.alloc (.cells #[zi (key:Int),zi (n:Int)] 120)).cell? ⟨b0,0,none⟩=some (.pointer (some ⟨A.bc s,0,none⟩)):=(B0.grow g1).cell;have d1:(w.alloc (.cells #[zi (key:Int),zi (n:Int)] 120)).cell? ⟨b1,0,none⟩=some (zi (key:Int)):=(B1.grow g1).cell;have d7:(w.alloc (.cells #[zi (key:Int),zi (n:Int)] 120)).cell? ⟨A.bc s,7,none⟩=some (A.vpairs s):=r1.call hc 7 rfl;have e:σ.tell s key n=σ.setC s {c with r:={c.r with pairs:=c.r.pairs++[(key,n)]}}:=by unfold St.tell;rw[call_get hc]
 rw[e]
 have FN : Hid (∀ v' w2, w2.ownsRow 0 120 2 v' (c.r.pairs.length + 1) (pairCs c.r.pairs ++ [zi (key : Int), zi (n : Int)]) → (w.alloc (.cells #[zi (key : Int), zi (n : Int)] 120)).grownBy w2 (A.vpairs s).ownBlock → (v'.ownBlock = (A.vpairs s).ownBlock ∨ ∀ g, v'.ownBlock = some g → (w.alloc (.cells #[zi (key : Int), zi (n : Int)] 120)).heap.size ≤ g) →
     (∃ A',Rep A' (σ.setC s {c with r:={c.r with pairs:=c.r.pairs++[(key,n)]}}) (w2.setCell ⟨A.bc s,7,none⟩ v')∧Grow A.L w A'.L (w2.setCell ⟨A.bc s,7,none⟩ v')∧Stay A A' s∧A'.bx=A.bx)∧w2.cell? ⟨A.bc s,7,none⟩=some (A.vpairs s)∧w2.frozen? ⟨A.bc s,7,none⟩=false∧w2.cell? ⟨b0,0,none⟩=some (.pointer (some ⟨A.bc s,0,none⟩))∧w2.cell? ⟨b1,0,none⟩=some (zi (key:Int))):=by
  intro v' w2 q1 q2 q3;obtain⟨k1,k2,k3,k4⟩:=r1.pairsOn hc (c.r.pairs++[(key,n)]) v' q2 (by rw[pairCs_snoc,List.length_append];exact q1) q3;refine⟨⟨_,k1,g1.trans k2,⟨rfl,rfl,rfl,rfl,rfl,rfl,rfl,rfl,rfl,rfl,rfl,fun _ _=>rfl,fun k hk=>upF_other _ _ hk⟩,rfl⟩,k3,k4,?_⟩;have hne:∀ b v,Box A.L (w.alloc (.cells #[zi (key:Int),zi (n:Int)] 120)) b v→w2.cell? ⟨b,0,none⟩=some v:=by
   intro b v hb;refine q2.cell hb.cell fun e=>?_
   have:=hown.2 b e.symm;obtain⟨_,hf⟩:=hb;rw[hf.1] at this
   cases this
  exact⟨hne _ _ (B0.grow g1),hne _ _ (B1.grow g1)⟩
 rw[hv] at k7 d7 ho FN;have HO:=zH ho;have HK:Hid (∀ v':Value,True):=fun _=>trivial
 clear hR hc B0 B1 r1 g1 hown ho e;generalize hln:c.r.pairs.length=len at*;have HN:=zH hn;clear hln hn;generalize pairCs c.r.pairs=xs at*;obtain⟨ii,hii,hz0,hz1,hz2⟩:=info_parts infoP;go_enter Tryz.func98,Tryz.ntmps98;go_wp2_with fail
 go_region_law (first|(refine Ow.wp_append_to _ (.tmp 9) (.tmp 13) 46 rfl 0 _ ii _ 2 16 Tryz.underlying46 hii hz0 hz1 hz2 rfl (by decide) (.slice av len capv) len xs rfl HO.out ⟨w.heap.size,0,none⟩ 1 1 (by omega) [zi (key:Int),zi (n:Int)] rfl rfl (by intro j u hu;exact Ow.new_row w [zi (key:Int),zi (n:Int)] _ _ rfl j u hu) (by intro u hu;simp at hu;rcases hu with rfl|rfl<;>rfl) (by have:=HN.out;unfold maxLen;omega) (by have:=HN.out;omega) (Nat.zero_le _) ?_;intro v' w2 q1 q2 q3;obtain⟨x1,x2,x3,x4,x5⟩:=FN.out v' w2 q1 (grown_drew q2) q3;obtain⟨a4,cap4,rfl,_⟩:=Ow.own_form q1;have R1:=zH x1;clear x1 q1 q2 q3))
 all_goals (go_end0;exact⟨rfl,R1.out⟩)
def CelsOk (σ:St) (t:Txn):Prop:=∀ key x,t.cell key=some x→x.there=true→VL σ x.own
theorem scanN_none (s n:Nat) (σ:St) (key:Nat) (h:¬ (σ.c s).op.hi<key) (hx:(σ.t s).cell key=none):scanN s (n+1) σ key=(σ,.start ⟨key,(σ.t s).begin_,.scan key⟩):=by unfold scanN;rw[if_neg h,hx]
theorem scanN_some (s n:Nat) (σ:St) (key:Nat) (x:Cel) (h:¬ (σ.c s).op.hi<key) (hx:(σ.t s).cell key=some x):scanN s (n+1) σ key=scanN s n (if x.there then σ.tell s key (σ.valueOf x.own) else σ) (key+1):=by
 conv=>lhs;unfold scanN
 rw[if_neg h,hx]
theorem scan_end (hR:Rep A σ w) (s:Nat) (t:Txn) (ht:σ.txns.getD s none=some t) (c:Cal) (hc:σ.calls.getD s none=some c) (key:Nat) (hk:c.op.hi<key):
 Calls Tryz.prog 78 #[.pointer (some ⟨A.be,0,none⟩),.pointer (some ⟨A.bt s,0,none⟩),.pointer (some ⟨A.bc s,0,none⟩),zi (key:Int)] w (Tells A w s (σ,.fin c.r)):=by
 obtain⟨r5,g5,f0,f1,f2,f3,f4⟩:=allocs5 hR #[.pointer (some ⟨A.be,0,none⟩)] 31 #[.pointer (some ⟨A.bt s,0,none⟩)] 86 #[.pointer (some ⟨A.bc s,0,none⟩)] 88 #[zi (key:Int)] 3 #[.func (.func 98) #[] #[.pointer (some ⟨w.heap.size+1+1,0,none⟩),.pointer (some ⟨w.heap.size+1+1+1,0,none⟩)]] 207;have a0:=f0.cell 0 (v:=.pointer (some ⟨A.be,0,none⟩)) rfl;have a1:=f1.cell 0 (v:=.pointer (some ⟨A.bt s,0,none⟩)) rfl;have a2:=f2.cell 0 (v:=.pointer (some ⟨A.bc s,0,none⟩)) rfl;have a3:=f3.cell 0 (v:=zi (key:Int)) rfl;have a4:=f4.cell 0 (v:=.func (.func 98) #[] #[.pointer (some ⟨w.heap.size+1+1,0,none⟩),.pointer (some ⟨w.heap.size+1+1+1,0,none⟩)]) rfl;have a7:=r5.txn ht 7 (v:=.map (some (A.bm s))) rfl;have ah:=r5.call hc 2 (v:=zi (c.op.hi:Int)) rfl;have hlk:=fun n=>lookup_run (r5.drewN n) ht key
 obtain⟨pv,hpv⟩:∃ pv,A.px s t key=.pointer pv:=by unfold Book.px;split<;>exact⟨_,rfl⟩
 rw[hpv] at hlk;have hown:=(hR.mem.all (.pairs s))
 rw[mem_pairs hc] at hown;obtain⟨pa,pcap,hvp,_⟩:=Ow.own_form hown.1
 have HW : Hid (∀ w6, Below (((((w.alloc (.cells #[.pointer (some ⟨A.be, 0, none⟩)] 31)).alloc (.cells #[.pointer (some ⟨A.bt s, 0, none⟩)] 86)).alloc (.cells #[.pointer (some ⟨A.bc s, 0, none⟩)] 88)).alloc (.cells #[zi (key : Int)] 3)).alloc (.cells #[.func (.func 98) #[] #[.pointer (some ⟨w.heap.size + 1 + 1, 0, none⟩), .pointer (some ⟨w.heap.size + 1 + 1 + 1, 0, none⟩)]] 207)).heap.size (((((w.alloc (.cells #[.pointer (some ⟨A.be, 0, none⟩)] 31)).alloc (.cells #[.pointer (some ⟨A.bt s, 0, none⟩)] 86)).alloc (.cells #[.pointer (some ⟨A.bc s, 0, none⟩)] 88)).alloc (.cells #[zi (key : Int)] 3)).alloc (.cells #[.func (.func 98) #[] #[.pointer (some ⟨w.heap.size + 1 + 1, 0, none⟩), .pointer (some ⟨w.heap.size + 1 + 1 + 1, 0, none⟩)]] 207)) w6 → w6.cell? ⟨w.heap.size, 0, none⟩ = some (.pointer (some ⟨A.be, 0, none⟩)) ∧ w6.cell? ⟨w.heap.size + 1 + 1, 0, none⟩ = some (.pointer (some ⟨A.bc s, 0, none⟩)) ∧ w6.cell? ⟨A.bc s, 5, none⟩ = some (zi (c.r.e : Int)) ∧ w6.cell? ⟨A.bc s, 6, none⟩ = some (zi (c.r.value : Int)) ∧ w6.cell? ⟨A.bc s, 7, none⟩ = some (A.vpairs s) ∧ w6.cell? ⟨A.bc s, 8, none⟩ = some (zi (c.r.over : Int)) ∧ w6.cell? ⟨A.bc s, 9, none⟩ = some (zi (c.r.reason : Int)) ∧
     Calls Tryz.prog 94 #[.pointer (some ⟨A.be,0,none⟩),.pointer (some ⟨A.bc s,0,none⟩),.agg #[zi (c.r.e:Int),zi (c.r.value:Int),A.vpairs s,zi (c.r.over:Int),zi (c.r.reason:Int)]] w6.drew (Tells A w6.drew s (σ,.fin c.r))∧Grow A.L w A.L w6.drew):=by
  intro w6 hb;have q:=r5.below hb;have gd:=Grow.below (L:=A.L) hb;have g:=g5.trans gd;exact⟨(f0.grow gd).cell 0 rfl,(f2.grow gd).cell 0 rfl,q.call hc 5 rfl,q.call hc 6 rfl,q.call hc 7 rfl,q.call hc 8 rfl,q.call hc 9 rfl,ends_at q.drew s c.r c.r.e c.r.value c.r.over c.r.reason (A.vpairs s) rfl (.inl ⟨rfl,by rw[call_get hc]⟩),g.trans (Grow.drew _ _)⟩
 rw[hvp] at HW;clear hR ht hc r5 g5 f0 f1 f2 f3 f4 hpv hown hvp;generalize c.op.hi=hi at*;obtain⟨fh1,fh2,fh3,fh4⟩:=zlt (x:=hi) (c:=key) (xi:=(hi:Int)) (ci:=(key:Int)) (by omega);clear hk;go_enter Tryz.func78,Tryz.ntmps78;go_wp2_with fail;generalize hw5:((((w.alloc _).alloc _).alloc _).alloc _).alloc _=w5 at*
 go_quiet (fail)
 go_wp2_with fail
 go_quiet (fail)
 first|generalize hw6:(w5.drewN _).drewN _=w6|generalize hw6:w5.drewN _=w6
 have hb6:Below w5.heap.size w5 w6:=by rw[←hw6];exact⟨rfl,rfl,rfl,Nat.le_refl _,fun _ _=>rfl⟩
 obtain⟨e0,e2,k5,k6,k7,k8,k9,he,gg⟩:=HW.out w6 hb6;have HE:=zH (zA he gg);clear a0 a1 a2 a3 a4 a7 ah hlk hw6 hb6 he gg;go_wp2_with fail;refine wp_region_still_tail 6 (by kernel_rfl) (by kernel_rfl) ?_;simp only[zta,ztb,ztc,ztd]
 repeat still_step
 refine wpStill_nil ?_;change wpList _ _ _ _ _ w6.drew;generalize w6.drew=wd at*;go_wp2_with (go_at_call 94;refine HE.out.1.mono ?_;rintro e w2 ⟨A2,v,rfl,p1,p2,p3,p4⟩);go_ret;exact⟨A2,v,rfl,p1,HE.out.2.trans p2,p3,p4⟩
theorem scan_find (hR:Rep A σ w) (s:Nat) (t:Txn) (ht:σ.txns.getD s none=some t) (c:Cal) (hc:σ.calls.getD s none=some c) (key:Nat) (hk:¬ c.op.hi<key) (hx:t.cell key=none):
 Calls Tryz.prog 78 #[.pointer (some ⟨A.be,0,none⟩),.pointer (some ⟨A.bt s,0,none⟩),.pointer (some ⟨A.bc s,0,none⟩),zi (key:Int)] w (Tells A w s (σ,.start ⟨key,t.begin_,.scan key⟩)):=by
 obtain⟨r5,g5,f0,f1,f2,f3,f4⟩:=allocs5 hR #[.pointer (some ⟨A.be,0,none⟩)] 31 #[.pointer (some ⟨A.bt s,0,none⟩)] 86 #[.pointer (some ⟨A.bc s,0,none⟩)] 88 #[zi (key:Int)] 3 #[.func (.func 98) #[] #[.pointer (some ⟨w.heap.size+1+1,0,none⟩),.pointer (some ⟨w.heap.size+1+1+1,0,none⟩)]] 207;have a0:=f0.cell 0 (v:=.pointer (some ⟨A.be,0,none⟩)) rfl;have a1:=f1.cell 0 (v:=.pointer (some ⟨A.bt s,0,none⟩)) rfl;have a2:=f2.cell 0 (v:=.pointer (some ⟨A.bc s,0,none⟩)) rfl;have a3:=f3.cell 0 (v:=zi (key:Int)) rfl;have a4:=f4.cell 0 (v:=.func (.func 98) #[] #[.pointer (some ⟨w.heap.size+1+1,0,none⟩),.pointer (some ⟨w.heap.size+1+1+1,0,none⟩)]) rfl;have a7:=r5.txn ht 7 (v:=.map (some (A.bm s))) rfl;have ah:=r5.call hc 2 (v:=zi (c.op.hi:Int)) rfl;have hlk:=fun n=>lookup_run (r5.drewN n) ht key
 have hpx:A.px s t key=.pointer none:=by unfold Book.px;rw[hx];rfl
 rw[hpx] at hlk
 have HW : Hid (∀ w6, Below (((((w.alloc (.cells #[.pointer (some ⟨A.be, 0, none⟩)] 31)).alloc (.cells #[.pointer (some ⟨A.bt s, 0, none⟩)] 86)).alloc (.cells #[.pointer (some ⟨A.bc s, 0, none⟩)] 88)).alloc (.cells #[zi (key : Int)] 3)).alloc (.cells #[.func (.func 98) #[] #[.pointer (some ⟨w.heap.size + 1 + 1, 0, none⟩), .pointer (some ⟨w.heap.size + 1 + 1 + 1, 0, none⟩)]] 207)).heap.size (((((w.alloc (.cells #[.pointer (some ⟨A.be, 0, none⟩)] 31)).alloc (.cells #[.pointer (some ⟨A.bt s, 0, none⟩)] 86)).alloc (.cells #[.pointer (some ⟨A.bc s, 0, none⟩)] 88)).alloc (.cells #[zi (key : Int)] 3)).alloc (.cells #[.func (.func 98) #[] #[.pointer (some ⟨w.heap.size + 1 + 1, 0, none⟩), .pointer (some ⟨w.heap.size + 1 + 1 + 1, 0, none⟩)]] 207)) w6 → w6.cell? ⟨w.heap.size, 0, none⟩ = some (.pointer (some ⟨A.be, 0, none⟩)) ∧ w6.cell? ⟨w.heap.size + 1, 0, none⟩ = some (.pointer (some ⟨A.bt s, 0, none⟩)) ∧ w6.cell? ⟨w.heap.size + 1 + 1 + 1, 0, none⟩ = some (zi (key : Int)) ∧ w6.cell? ⟨A.bt s, 3, none⟩ = some (zu (t.begin_ : Int)) ∧
     Calls Tryz.prog 95 #[.pointer (some ⟨A.be,0,none⟩),.pointer (some ⟨A.bt s,0,none⟩),zi (key:Int),zu (t.begin_:Int),.func (.func 99) #[] #[.pointer (some ⟨w.heap.size+1,0,none⟩),.pointer (some ⟨w.heap.size+1+1+1,0,none⟩),.pointer (some ⟨w.heap.size+1+1+1+1,0,none⟩),.pointer (some ⟨w.heap.size,0,none⟩),.pointer (some ⟨w.heap.size+1+1,0,none⟩)]] w6.drew (Tells A w6.drew s (σ,.start ⟨key,t.begin_,.scan key⟩))∧Grow A.L w A.L w6.drew):=by
  intro w6 hb;have q:=r5.below hb;have gd:=Grow.below (L:=A.L) hb;have ge:=gd.trans (Grow.drew A.L _);exact⟨(f0.grow gd).cell 0 rfl,(f1.grow gd).cell 0 rfl,(f3.grow gd).cell 0 rfl,q.txn ht 3 rfl,find_any q.drew s key t.begin_ (.func (.func 99) #[] #[.pointer (some ⟨w.heap.size+1,0,none⟩),.pointer (some ⟨w.heap.size+1+1+1,0,none⟩),.pointer (some ⟨w.heap.size+1+1+1+1,0,none⟩),.pointer (some ⟨w.heap.size,0,none⟩),.pointer (some ⟨w.heap.size+1+1,0,none⟩)]) (.scan key) ⟨_,_,_,_,_,rfl,f1.box.grow ge,f3.box.grow ge,⟨_,f4.box.grow ge,_,_,rfl,f2.box.grow ge,f3.box.grow ge⟩,f0.box.grow ge,f2.box.grow ge⟩,g5.trans ge⟩
 clear hR ht hc r5 g5 f0 f1 f2 f3 f4 hpx hx;generalize c.op.hi=hi at*;generalize t.begin_=bg at*;obtain⟨fh1,fh2,fh3,fh4⟩:=zlf (x:=hi) (c:=key) (xi:=(hi:Int)) (ci:=(key:Int)) (by omega);clear hk;go_enter Tryz.func78,Tryz.ntmps78;go_wp2_with fail;generalize hw5:((((w.alloc _).alloc _).alloc _).alloc _).alloc _=w5 at*
 go_quiet (fail)
 go_wp2_with fail
 go_quiet (fail)
 first|generalize hw6:(w5.drewN _).drewN _=w6|generalize hw6:w5.drewN _=w6
 have hb6:Below w5.heap.size w5 w6:=by rw[←hw6];exact⟨rfl,rfl,rfl,Nat.le_refl _,fun _ _=>rfl⟩
 obtain⟨e0,e1,e3,eb,he,gg⟩:=HW.out w6 hb6;have HE:=zH (zA he gg);clear a0 a1 a2 a3 a4 a7 ah hlk hw6 hb6 he gg;go_wp2_with fail;refine wp_region_still_tail 8 (by kernel_rfl) (by kernel_rfl) ?_;simp only[zta,ztb,ztc,ztd]
 repeat still_step
 refine wpStill_nil ?_;change wpList _ _ _ _ _ w6.drew;generalize w6.drew=wd at*;go_wp2_with (go_at_call 95;refine HE.out.1.mono ?_;rintro e w2 ⟨A2,v,rfl,p1,p2,p3,p4⟩);go_ret;exact⟨A2,v,rfl,p1,HE.out.2.trans p2,p3,p4⟩
theorem scan_past (hR:Rep A σ w) (s:Nat) (t:Txn) (ht:σ.txns.getD s none=some t) (c:Cal) (hc:σ.calls.getD s none=some c) (key:Nat) (hk:¬ c.op.hi<key) (hk63:key≤63) (x:Cel) (hx:t.cell key=some x) (hth:x.there=false) (res:St×K) (hrec:∀ (A':Book) (w':World),Rep A' σ w'→Stay A A' s→A'.bx=A.bx→Calls Tryz.prog 78 #[.pointer (some ⟨A.be,0,none⟩),.pointer (some ⟨A.bt s,0,none⟩),.pointer (some ⟨A.bc s,0,none⟩),zi ((key:Int)+1)] w' (Tells A' w' s res)):
 Calls Tryz.prog 78 #[.pointer (some ⟨A.be,0,none⟩),.pointer (some ⟨A.bt s,0,none⟩),.pointer (some ⟨A.bc s,0,none⟩),zi (key:Int)] w (Tells A w s res):=by
 obtain⟨r5,g5,f0,f1,f2,f3,f4⟩:=allocs5 hR #[.pointer (some ⟨A.be,0,none⟩)] 31 #[.pointer (some ⟨A.bt s,0,none⟩)] 86 #[.pointer (some ⟨A.bc s,0,none⟩)] 88 #[zi (key:Int)] 3 #[.func (.func 98) #[] #[.pointer (some ⟨w.heap.size+1+1,0,none⟩),.pointer (some ⟨w.heap.size+1+1+1,0,none⟩)]] 207;have a0:=f0.cell 0 (v:=.pointer (some ⟨A.be,0,none⟩)) rfl;have a1:=f1.cell 0 (v:=.pointer (some ⟨A.bt s,0,none⟩)) rfl;have a2:=f2.cell 0 (v:=.pointer (some ⟨A.bc s,0,none⟩)) rfl;have a3:=f3.cell 0 (v:=zi (key:Int)) rfl;have a4:=f4.cell 0 (v:=.func (.func 98) #[] #[.pointer (some ⟨w.heap.size+1+1,0,none⟩),.pointer (some ⟨w.heap.size+1+1+1,0,none⟩)]) rfl;have a7:=r5.txn ht 7 (v:=.map (some (A.bm s))) rfl;have ah:=r5.call hc 2 (v:=zi (c.op.hi:Int)) rfl;have hlk:=fun n=>lookup_run (r5.drewN n) ht key
 have hpx:A.px s t key=.pointer (some ⟨A.bx s key,0,none⟩):=by unfold Book.px;rw[hx];rfl
 rw[hpx] at hlk;have n1:IntKind.i64.wrap ((key:Int)+1)=(key:Int)+1:=by rw[IntKind.wrap_i64];omega
 have HW : Hid (∀ w6, Below (((((w.alloc (.cells #[.pointer (some ⟨A.be, 0, none⟩)] 31)).alloc (.cells #[.pointer (some ⟨A.bt s, 0, none⟩)] 86)).alloc (.cells #[.pointer (some ⟨A.bc s, 0, none⟩)] 88)).alloc (.cells #[zi (key : Int)] 3)).alloc (.cells #[.func (.func 98) #[] #[.pointer (some ⟨w.heap.size + 1 + 1, 0, none⟩), .pointer (some ⟨w.heap.size + 1 + 1 + 1, 0, none⟩)]] 207)).heap.size (((((w.alloc (.cells #[.pointer (some ⟨A.be, 0, none⟩)] 31)).alloc (.cells #[.pointer (some ⟨A.bt s, 0, none⟩)] 86)).alloc (.cells #[.pointer (some ⟨A.bc s, 0, none⟩)] 88)).alloc (.cells #[zi (key : Int)] 3)).alloc (.cells #[.func (.func 98) #[] #[.pointer (some ⟨w.heap.size + 1 + 1, 0, none⟩), .pointer (some ⟨w.heap.size + 1 + 1 + 1, 0, none⟩)]] 207)) w6 → w6.cell? ⟨w.heap.size, 0, none⟩ = some (.pointer (some ⟨A.be, 0, none⟩)) ∧ w6.cell? ⟨w.heap.size + 1, 0, none⟩ = some (.pointer (some ⟨A.bt s, 0, none⟩)) ∧ w6.cell? ⟨w.heap.size + 1 + 1, 0, none⟩ = some (.pointer (some ⟨A.bc s, 0, none⟩)) ∧ w6.cell? ⟨w.heap.size + 1 + 1 + 1, 0, none⟩ = some (zi (key : Int)) ∧ w6.cell? ⟨A.bx s key, 2, none⟩ = some (.bool false) ∧
     Calls Tryz.prog 78 #[.pointer (some ⟨A.be,0,none⟩),.pointer (some ⟨A.bt s,0,none⟩),.pointer (some ⟨A.bc s,0,none⟩),zi ((key:Int)+1)] w6 (Tells A w6 s res)∧Grow A.L w A.L w6):=by
  intro w6 hb;have q:=r5.below hb;have gd:=Grow.below (L:=A.L) hb;obtain⟨_,_,x2⟩:=q.cel ht hx;rw[hth] at x2;exact⟨(f0.grow gd).cell 0 rfl,(f1.grow gd).cell 0 rfl,(f2.grow gd).cell 0 rfl,(f3.grow gd).cell 0 rfl,x2,hrec A _ q (Stay.refl _ _) rfl,g5.trans gd⟩
 clear hR ht hc r5 g5 f0 f1 f2 f3 f4 hpx hx hth hrec hk63;generalize c.op.hi=hi at*;generalize A.bx s key=kx at*;obtain⟨fh1,fh2,fh3,fh4⟩:=zlf (x:=hi) (c:=key) (xi:=(hi:Int)) (ci:=(key:Int)) (by omega);clear hk;go_enter Tryz.func78,Tryz.ntmps78;go_wp2_with fail;generalize hw5:((((w.alloc _).alloc _).alloc _).alloc _).alloc _=w5 at*
 go_quiet (fail)
 go_wp2_with fail
 go_quiet (fail)
 first|generalize hw6:(w5.drewN _).drewN _=w6|generalize hw6:w5.drewN _=w6
 have hb6:Below w5.heap.size w5 w6:=by rw[←hw6];exact⟨rfl,rfl,rfl,Nat.le_refl _,fun _ _=>rfl⟩
 obtain⟨e0,e1,e2,e3,x2,he,gg⟩:=HW.out w6 hb6;have HE:=zH (zA he gg);clear a0 a1 a2 a3 a4 a7 ah hlk hw6 hb6 he gg;go_wp2_with (go_at_call 78;refine HE.out.1.mono ?_;rintro e w2 ⟨A2,v,rfl,p1,p2,p3,p4⟩);go_ret;exact⟨A2,v,rfl,p1,HE.out.2.trans p2,p3,p4⟩
theorem scan_told (hR:Rep A σ w) (s:Nat) (t:Txn) (ht:σ.txns.getD s none=some t) (c:Cal) (hc:σ.calls.getD s none=some c) (key:Nat) (hk:¬ c.op.hi<key) (hk63:key≤63) (x:Cel) (hx:t.cell key=some x) (hth:x.there=true) (hv:VL σ x.own) (hpl:c.r.pairs.length<1000000) (res:St×K) (hrec:∀ (A':Book) (w':World),Rep A' (σ.tell s key (σ.valueOf x.own)) w'→Stay A A' s→A'.bx=A.bx→Calls Tryz.prog 78 #[.pointer (some ⟨A.be,0,none⟩),.pointer (some ⟨A.bt s,0,none⟩),.pointer (some ⟨A.bc s,0,none⟩),zi ((key:Int)+1)] w' (Tells A' w' s res)):
 Calls Tryz.prog 78 #[.pointer (some ⟨A.be,0,none⟩),.pointer (some ⟨A.bt s,0,none⟩),.pointer (some ⟨A.bc s,0,none⟩),zi (key:Int)] w (Tells A w s res):=by
 obtain⟨r5,g5,f0,f1,f2,f3,f4⟩:=allocs5 hR #[.pointer (some ⟨A.be,0,none⟩)] 31 #[.pointer (some ⟨A.bt s,0,none⟩)] 86 #[.pointer (some ⟨A.bc s,0,none⟩)] 88 #[zi (key:Int)] 3 #[.func (.func 98) #[] #[.pointer (some ⟨w.heap.size+1+1,0,none⟩),.pointer (some ⟨w.heap.size+1+1+1,0,none⟩)]] 207;have a0:=f0.cell 0 (v:=.pointer (some ⟨A.be,0,none⟩)) rfl;have a1:=f1.cell 0 (v:=.pointer (some ⟨A.bt s,0,none⟩)) rfl;have a2:=f2.cell 0 (v:=.pointer (some ⟨A.bc s,0,none⟩)) rfl;have a3:=f3.cell 0 (v:=zi (key:Int)) rfl;have a4:=f4.cell 0 (v:=.func (.func 98) #[] #[.pointer (some ⟨w.heap.size+1+1,0,none⟩),.pointer (some ⟨w.heap.size+1+1+1,0,none⟩)]) rfl;have a7:=r5.txn ht 7 (v:=.map (some (A.bm s))) rfl;have ah:=r5.call hc 2 (v:=zi (c.op.hi:Int)) rfl;have hlk:=fun n=>lookup_run (r5.drewN n) ht key
 have hpx:A.px s t key=.pointer (some ⟨A.bx s key,0,none⟩):=by unfold Book.px;rw[hx];rfl
 rw[hpx] at hlk;have n1:IntKind.i64.wrap ((key:Int)+1)=(key:Int)+1:=by rw[IntKind.wrap_i64];omega
 have HW : Hid (∀ w6, Below (((((w.alloc (.cells #[.pointer (some ⟨A.be, 0, none⟩)] 31)).alloc (.cells #[.pointer (some ⟨A.bt s, 0, none⟩)] 86)).alloc (.cells #[.pointer (some ⟨A.bc s, 0, none⟩)] 88)).alloc (.cells #[zi (key : Int)] 3)).alloc (.cells #[.func (.func 98) #[] #[.pointer (some ⟨w.heap.size + 1 + 1, 0, none⟩), .pointer (some ⟨w.heap.size + 1 + 1 + 1, 0, none⟩)]] 207)).heap.size (((((w.alloc (.cells #[.pointer (some ⟨A.be, 0, none⟩)] 31)).alloc (.cells #[.pointer (some ⟨A.bt s, 0, none⟩)] 86)).alloc (.cells #[.pointer (some ⟨A.bc s, 0, none⟩)] 88)).alloc (.cells #[zi (key : Int)] 3)).alloc (.cells #[.func (.func 98) #[] #[.pointer (some ⟨w.heap.size + 1 + 1, 0, none⟩), .pointer (some ⟨w.heap.size + 1 + 1 + 1, 0, none⟩)]] 207)) w6 → w6.cell? ⟨w.heap.size, 0, none⟩ = some (.pointer (some ⟨A.be, 0, none⟩)) ∧ w6.cell? ⟨w.heap.size + 1 + 1 + 1 + 1, 0, none⟩ = some (.func (.func 98) #[] #[.pointer (some ⟨w.heap.size + 1 + 1, 0, none⟩), .pointer (some ⟨w.heap.size + 1 + 1 + 1, 0, none⟩)]) ∧ w6.cell? ⟨A.bx s key, 2, none⟩ = some (.bool true) ∧ w6.cell? ⟨A.bx s key, 0, none⟩ = some (zu (x.own : Int)) ∧
     Calls Tryz.prog 39 #[.pointer (some ⟨A.be,0,none⟩),zu (x.own:Int)] w6.drew (fun e w'=>e=.returned (.pointer (some ⟨A.bv,2*slotOf x.own,none⟩))∧w'=w6.drew)∧w6.drew.cell? ⟨A.bv,2*slotOf x.own+1,none⟩=some (zi (σ.valueOf x.own:Int))∧
     Calls Tryz.prog 98 #[zi (σ.valueOf x.own:Int),.pointer (some ⟨w.heap.size+1+1,0,none⟩),.pointer (some ⟨w.heap.size+1+1+1,0,none⟩)] w6.drew (TldP A w6.drew s (σ.tell s key (σ.valueOf x.own)))∧Grow A.L w A.L w6.drew∧
     ∀ (A':Book) w',Grow A.L w6.drew A'.L w'→w'.cell? ⟨w.heap.size,0,none⟩=some (.pointer (some ⟨A.be,0,none⟩))∧w'.cell? ⟨w.heap.size+1,0,none⟩=some (.pointer (some ⟨A.bt s,0,none⟩))∧w'.cell? ⟨w.heap.size+1+1,0,none⟩=some (.pointer (some ⟨A.bc s,0,none⟩))∧w'.cell? ⟨w.heap.size+1+1+1,0,none⟩=some (zi (key:Int))):=by
  intro w6 hb;have q:=r5.below hb;have gd:=Grow.below (L:=A.L) hb;have ge:=gd.trans (Grow.drew A.L _);obtain⟨x0,_,x2⟩:=q.cel ht hx;rw[hth] at x2;exact⟨(f0.grow gd).cell 0 rfl,(f4.grow gd).cell 0 rfl,x2,x0,flip (data_any q.drew x.own hv.lo hv.hi hv.u),(q.drew.val (slotOf_lt hv)).2,tellP_any q.drew s c hc key (σ.valueOf x.own) _ _ (f2.box.grow ge) (f3.box.grow ge) hpl,g5.trans ge,fun A' w' g=>⟨((f0.grow ge).grow g).cell 0 rfl,((f1.grow ge).grow g).cell 0 rfl,((f2.grow ge).grow g).cell 0 rfl,((f3.grow ge).grow g).cell 0 rfl⟩⟩
 have HREC:=zH hrec;clear hR ht hc r5 g5 f0 f1 f2 f3 f4 hpx hx hth hrec hk63 hv hpl;generalize σ.tell s key (σ.valueOf x.own)=σ1 at*;generalize σ.valueOf x.own=va at*;generalize 2*slotOf x.own=iv at*;generalize x.own=ow at*;generalize c.op.hi=hi at*;generalize A.bx s key=kx at*;obtain⟨fh1,fh2,fh3,fh4⟩:=zlf (x:=hi) (c:=key) (xi:=(hi:Int)) (ci:=(key:Int)) (by omega);clear hk;go_enter Tryz.func78,Tryz.ntmps78;go_wp2_with fail;generalize hw5:((((w.alloc _).alloc _).alloc _).alloc _).alloc _=w5 at*
 go_quiet (fail)
 go_wp2_with fail
 go_quiet (fail)
 first|generalize hw6:(w5.drewN _).drewN _=w6|generalize hw6:w5.drewN _=w6
 have hb6:Below w5.heap.size w5 w6:=by rw[←hw6];exact⟨rfl,rfl,rfl,Nat.le_refl _,fun _ _=>rfl⟩
 obtain⟨e0,e4,x2,x0,hd,v1,ht,gg,hz⟩:=HW.out w6 hb6;have HD:=zH hd;have HT:=zH ht;have HG:=zH gg;have HZ:=zH hz;clear a0 a1 a2 a3 a4 a7 ah hlk hw6 hb6 hd ht gg hz;go_wp2_with fail;refine wp_region_still_tail 10 (by kernel_rfl) (by kernel_rfl) ?_;simp only[zta,ztb,ztc,ztd]
 repeat still_step
 still_call HD.out
 repeat still_step
 refine wpStill_nil ?_;change wpList _ _ _ _ _ w6.drew;generalize w6.drew=wd at*;go_wp2_with (first|(go_at_call 98;refine HT.out.mono ?_;rintro e w2 ⟨rfl,A2,p1,p2,p3,p4⟩;obtain⟨e0,e1,e2,e3⟩:=HZ.out A2 w2 p2;have HR:=zH (HREC.out A2 w2 p1 p3 p4);have HQ:=zH (zA (HG.out.trans p2) p3);clear p1 p2 p3 p4)|(go_at_call 78;refine HR.out.mono ?_;rintro e w3 ⟨A3,v,rfl,p1,p2,p3,p4⟩));go_ret;exact⟨A3,v,rfl,p1,HQ.out.1.trans p2,HQ.out.2.trans p3,p4⟩
theorem scan_tells (s:Nat):∀ (n:Nat) {A:Book} {σ:St} {w:World} (hR:Rep A σ w) (t:Txn) (ht:σ.txns.getD s none=some t) (c:Cal) (hc:σ.calls.getD s none=some c) (key:Nat) (hnk:n=c.op.hi+1 - key) (hk64:key≤64) (hhi:c.op.hi≤63) (hcx:CelsOk σ t) (hpl:c.r.pairs.length+n<1000000),
 Calls Tryz.prog 78 #[.pointer (some ⟨A.be,0,none⟩),.pointer (some ⟨A.bt s,0,none⟩),.pointer (some ⟨A.bc s,0,none⟩),zi (key:Int)] w (Tells A w s (scanN s n σ key)):=by
 intro n
 induction n with
 |zero=>
  intro A σ w hR t ht c hc key hnk hk64 hhi hcx hpl;have h:=scan_end hR s t ht c hc key (by omega);have e:scanN s 0 σ key=(σ,.fin c.r):=by unfold scanN;rw[call_get hc]
  rw[e];exact h
 |succ n ih=>
  intro A σ w hR t ht c hc key hnk hk64 hhi hcx hpl;have ec:=call_get hc;have et:=txn_get ht;have hk:¬ c.op.hi<key:=by omega
  cases hx:t.cell key with
  |none=>
   have h:=scan_find hR s t ht c hc key hk hx;rw[scanN_none s n σ key (by rw[ec];exact hk) (by rw[et];exact hx),et];exact h
  |some x=>
   rw[scanN_some s n σ key x (by rw[ec];exact hk) (by rw[et];exact hx)]
   cases hth:x.there with
   |false=>
    rw[if_neg (by decide)];refine scan_past hR s t ht c hc key hk (by omega) x hx hth _ fun A' w' r st bx=>?_
    have h:=ih r t ht c hc (key+1) (by omega) (by omega) hhi hcx (by omega);rw[st.be,st.bt,st.bc] at h;exact h
   |true=>
    rw[if_pos rfl];refine scan_told hR s t ht c hc key hk (by omega) x hx hth (hcx key x hx hth) (by omega) _ fun A' w' r st bx=>?_
    have hc2:(σ.tell s key (σ.valueOf x.own)).calls.getD s none=some {c with r:={c.r with pairs:=c.r.pairs++[(key,σ.valueOf x.own)]}}:=by
     unfold St.tell;rw[ec,getC_set (lt_of_call hc),if_pos rfl]
    have h:=ih r t ht _ hc2 (key+1) (by simp only;omega) (by omega) hhi (fun k y hy hty=>let q:=hcx k y hy hty;⟨q.lo,q.hi,q.u⟩) (by simp only[List.length_append,List.length_cons,List.length_nil];omega);rw[st.be,st.bt,st.bc] at h;exact h
theorem scan_any (hR:Rep A σ w) (s:Nat) (t:Txn) (ht:σ.txns.getD s none=some t) (c:Cal) (hc:σ.calls.getD s none=some c) (key:Nat) (hk64:key≤64) (hhi:c.op.hi≤63) (hcx:CelsOk σ t) (hpl:c.r.pairs.length<100000):
 Calls Tryz.prog 78 #[.pointer (some ⟨A.be,0,none⟩),.pointer (some ⟨A.bt s,0,none⟩),.pointer (some ⟨A.bc s,0,none⟩),zi (key:Int)] w (Tells A w s (σ.scan s key)):=by
 have h:=scan_tells s (c.op.hi+1 - key) hR t ht c hc key rfl hk64 hhi hcx (by omega);unfold St.scan;rw[call_get hc];exact h
theorem k_scan (hR:Rep A σ w) (s:Nat) (t:Txn) (ht:σ.txns.getD s none=some t) (c:Cal) (hc:σ.calls.getD s none=some c) (key link at_ b0 b1 b2 b3 b4:Nat) (B0:Box A.L w b0 (.pointer (some ⟨A.bt s,0,none⟩))) (B1:Box A.L w b1 (zi (key:Int))) (B2:TellBox (kp A σ s) A.L w b2 key) (B3:Box A.L w b3 (.pointer (some ⟨A.be,0,none⟩))) (B4:Box A.L w b4 (.pointer (some ⟨A.bc s,0,none⟩))) (hl:link=0∨VL σ link) (hk:key≤63) (hhi:c.op.hi≤63) (hcx:CelsOk σ t) (hpl:c.r.pairs.length<100000 - 1) (hn:t.reads.length<1000000):
 Calls Tryz.prog 99 #[zu (link:Int),.pointer (some ⟨b0,0,none⟩),.pointer (some ⟨b1,0,none⟩),.pointer (some ⟨b2,0,none⟩),.pointer (some ⟨b3,0,none⟩),.pointer (some ⟨b4,0,none⟩)] w (Tells A w s (σ.thn s ⟨key,at_,.scan key⟩ link)):=by
 obtain⟨vt,X2,m0,m1,hvt,N0,N1⟩:=B2;have c0:=B0.cell;have c1:=B1.cell;have n1:IntKind.i64.wrap ((key:Int)+1)=(key:Int)+1:=by rw[IntKind.wrap_i64];omega
 have hr:=read_any hR s t ht key link false hn;have HR:=zH hr;have ht1:∀ σ':St,σ'=σ.read s key link false→∃ t',σ'.txns.getD s none=some t'∧t'.cells=t.cells:=by
  rintro σ' rfl;refine⟨{t with reads:=t.reads++[(key,link,false)]},?_,rfl⟩;unfold St.read;rw[getT_set (lt_of_txn ht),if_pos rfl,txn_get ht]
 have hslots:(σ.read s key link false).slots=σ.slots:=rfl;have hcalls:(σ.read s key link false).calls=σ.calls:=rfl;have hvals:(σ.read s key link false).valueOf link=σ.valueOf link:=rfl;have hcx1:∀ (σ':St) (t':Txn),σ'.slots=σ.slots→t'.cells=t.cells→CelsOk σ' t':=by
  intro σ' t' h1 h2 k y hy hty;have q:=hcx k y (by unfold Txn.cell at hy ⊢;rw[←h2];exact hy) hty;exact⟨q.lo,by rw[h1];exact q.hi,q.u⟩
 have hlt:=lt_of_call hc;obtain⟨σ1,hσ1⟩:∃ σ1,σ1=σ.read s key link false:=⟨_,rfl⟩
 obtain⟨t1,ht1',htc⟩:=ht1 σ1 hσ1;rw[←hσ1] at hslots hcalls hvals HR;have e1:σ.thn s ⟨key,at_,.scan key⟩ link=(if link=0 then σ1 else σ1.tell s key (σ1.valueOf link)).scan s (key+1):=by simp only[St.thn,←hσ1]
 rw[e1];have HB:Hid (∀ (A1:Book) w1,Grow A.L w A1.L w1→w1.cell? ⟨b0,0,none⟩=some (.pointer (some ⟨A.bt s,0,none⟩))∧w1.cell? ⟨b1,0,none⟩=some (zi (key:Int))∧w1.cell? ⟨b2,0,none⟩=some vt∧w1.cell? ⟨b3,0,none⟩=some (.pointer (some ⟨A.be,0,none⟩))∧w1.cell? ⟨b4,0,none⟩=some (.pointer (some ⟨A.bc s,0,none⟩))):=fun A1 w1 g=>⟨(B0.grow g).cell,(B1.grow g).cell,(X2.grow g).cell,(B3.grow g).cell,(B4.grow g).cell⟩
 have hc1:σ1.calls.getD s none=some c:=by rw[hcalls];exact hc
 have HSC:Hid (∀ (A1:Book) w1,Rep A1 σ1 w1→Stay A A1 s→Calls Tryz.prog 78 #[.pointer (some ⟨A.be,0,none⟩),.pointer (some ⟨A.bt s,0,none⟩),.pointer (some ⟨A.bc s,0,none⟩),zi ((key:Int)+1)] w1 (Tells A1 w1 s (σ1.scan s (key+1)))):=by
  intro A1 w1 r st;have h:=scan_any r s t1 ht1' c hc1 (key+1) (by omega) hhi (hcx1 σ1 t1 hslots htc) (by omega);rw[st.be,st.bt,st.bc] at h;exact h
 have HTL:Hid (link≠0→∀ (A1:Book) w1,Rep A1 σ1 w1→Grow A.L w A1.L w1→Stay A A1 s→Calls Tryz.prog 39 #[.pointer (some ⟨A.be,0,none⟩),zu (link:Int)] w1.drew (fun e w'=>e=.returned (.pointer (some ⟨A1.bv,2*slotOf link,none⟩))∧w'=w1.drew)∧w1.drew.cell? ⟨A1.bv,2*slotOf link+1,none⟩=some (zi (σ1.valueOf link:Int))∧Calls Tryz.prog 98 #[zi (σ1.valueOf link:Int),ptr m0,ptr m1] w1.drew (TldP A1 w1.drew s (σ1.tell s key (σ1.valueOf link)))):=by
  intro h0 A1 w1 r g st;have hv:=hl.resolve_left h0;have hv1:VL σ1 link:=⟨hv.lo,by rw[hslots];exact hv.hi,hv.u⟩
  have gd:=g.trans (Grow.drew _ _);have hd:=flip (data_any r.drew link hv1.lo hv1.hi hv1.u);rw[st.be] at hd;have N0':Box A1.L w1.drew m0 (ptr (A1.bc s)):=by
   have:=N0.grow gd;show Box A1.L w1.drew m0 (ptr (A1.bc s));rw[st.bc];exact this
  exact⟨hd,(r.drew.val (slotOf_lt hv1)).2,tellP_any r.drew s c hc1 key (σ1.valueOf link) m0 m1 N0' (N1.grow gd) (by omega)⟩
 have HS2:Hid (∀ (A1:Book) w1,Rep A1 (σ1.tell s key (σ1.valueOf link)) w1→Stay A A1 s→Calls Tryz.prog 78 #[.pointer (some ⟨A.be,0,none⟩),.pointer (some ⟨A.bt s,0,none⟩),.pointer (some ⟨A.bc s,0,none⟩),zi ((key:Int)+1)] w1 (Tells A1 w1 s ((σ1.tell s key (σ1.valueOf link)).scan s (key+1)))):=by
  intro A1 w1 r st;have hc2:(σ1.tell s key (σ1.valueOf link)).calls.getD s none=some {c with r:={c.r with pairs:=c.r.pairs++[(key,σ1.valueOf link)]}}:=by
   unfold St.tell;rw[call_get hc1,getC_set (lt_of_call hc1),if_pos rfl]
  have h:=scan_any r s t1 ht1' _ hc2 (key+1) (by omega) hhi (hcx1 _ t1 hslots htc) (by simp only[List.length_append,List.length_cons,List.length_nil];omega);rw[st.be,st.bt,st.bc] at h;exact h
 clear hR ht hc hl hk hhi hcx hpl hn hr ht1 hslots hcalls hvals hcx1 hlt e1 hc1 htc ht1' B0 B1 X2 B3 B4 N0 N1 hσ1;subst hvt;generalize σ1.valueOf link=va at*
 by_cases h0:link=0
 · rw[if_pos h0]
   obtain⟨fl1,fl2,fl3,fl4,fl5⟩:=zeT (x:=link) (c:=0) (ci:=0) (by omega);clear h0 HTL HS2;go_enter Tryz.func99,Tryz.ntmps99;go_wp2_with (first|(go_at_call 97;refine HR.out.mono ?_;rintro e w1 ⟨rfl,A1,q1,q2,q3,q4,q5⟩;obtain⟨d0,d1,d2,d3,d4⟩:=HB.out A1 w1 q2;have HQ:=zH (zA q1 (zA q2 q3));have HSS:=zH (HSC.out A1 w1 q1 q3);clear q1 q2 q3 q4 q5)|(go_at_call 78;refine HSS.out.mono ?_;rintro e w2 ⟨A2,v,rfl,p1,p2,p3,p4⟩));go_ret;exact⟨A2,v,rfl,p1,HQ.out.2.1.trans p2,HQ.out.2.2.trans p3,p4⟩
 · rw[if_neg h0]
   obtain⟨fl1,fl2,fl3,fl4,fl5⟩:=zeF (x:=link) (c:=0) (ci:=0) (by omega);have HT0:=zH (HTL.out h0);clear h0 HTL HSC;go_enter Tryz.func99,Tryz.ntmps99;go_wp2_with (go_at_call 97;refine HR.out.mono ?_;rintro e w1 ⟨rfl,A1,q1,q2,q3,q4,q5⟩;obtain⟨d0,d1,d2,d3,d4⟩:=HB.out A1 w1 q2;have HQ:=zH (zA q1 (zA q2 q3));clear q1 q2 q3 q4 q5);obtain⟨hd,hv,ht⟩:=HT0.out A1 w1 HQ.out.1 HQ.out.2.1 HQ.out.2.2;have HD:=zH hd;have HT:=zH ht;clear hd ht;go_wp2_with fail;refine wp_region_still_tail 7 (by kernel_rfl) (by kernel_rfl) ?_;simp only[zta,ztb,ztc,ztd]
   repeat still_step
   still_call HD.out
   repeat still_step
   refine wpStill_nil ?_;change wpList _ _ _ _ _ w1.drew;have HGD:=zH (HQ.out.2.1.trans (Grow.drew A1.L w1));generalize w1.drew=wd at*;go_wp2_with (first|(go_at_call 98;refine HT.out.mono ?_;rintro e w2 ⟨rfl,A2,p1,p2,p3,p4⟩;obtain⟨d0,d1,d2,d3,d4⟩:=HB.out A2 w2 (HGD.out.trans p2);have HSS:=zH (HS2.out A2 w2 p1 (HQ.out.2.2.trans p3));have HY:=zH (zA (HGD.out.trans p2) (HQ.out.2.2.trans p3));clear p1 p2 p3 p4)|(go_at_call 78;refine HSS.out.mono ?_;rintro e w3 ⟨A3,v,rfl,p1,p2,p3,p4⟩));go_ret;exact⟨A3,v,rfl,p1,HY.out.1.trans p2,HY.out.2.trans p3,p4⟩
end Go.Proofs.YtmgghljjjpcgkaaGreat.Em
