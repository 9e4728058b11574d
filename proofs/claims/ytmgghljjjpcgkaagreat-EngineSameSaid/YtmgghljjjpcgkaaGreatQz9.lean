import Derived.Test.YtmgghljjjpcgkaaGreatQz8
namespace Go.Proofs.YtmgghljjjpcgkaaGreat.Em
open Go.ChangeShapes Go.WideShapes Go.ChangeAt Go.RowKit En
set_option linter.unusedVariables false
set_option linter.unusedSimpArgs false
set_option maxRecDepth 100000
set_option maxHeartbeats 1600000
variable {A:Book} {σ:St} {w:World}
theorem change_none (hR:Rep A σ w) (s:Nat) (t:Txn) (ht:σ.txns.getD s none=some t) (c:Cal) (hc:σ.calls.getD s none=some c) (hx:t.cell c.op.key=none):
 Calls Tryz.prog 81 #[.pointer (some ⟨A.be,0,none⟩),.pointer (some ⟨A.bt s,0,none⟩),.pointer (some ⟨A.bc s,0,none⟩)] w (Tells A w s (σ,.start ⟨c.op.key,t.begin_,.change⟩)):=by
 obtain⟨r3,g3,_,_,_⟩:=allocs3 hR #[.pointer (some ⟨A.be,0,none⟩)] 31 #[.pointer (some ⟨A.bt s,0,none⟩)] 86 #[.pointer (some ⟨A.bc s,0,none⟩)] 88;have k1:=r3.call hc 1 (v:=zi (c.op.key:Int)) rfl;obtain⟨r4,g4,f0,f1,f2,f3⟩:=allocs4 hR #[.pointer (some ⟨A.be,0,none⟩)] 31 #[.pointer (some ⟨A.bt s,0,none⟩)] 86 #[.pointer (some ⟨A.bc s,0,none⟩)] 88 #[zi (c.op.key:Int)] 3;have a0:=f0.cell 0 (v:=.pointer (some ⟨A.be,0,none⟩)) rfl;have a1:=f1.cell 0 (v:=.pointer (some ⟨A.bt s,0,none⟩)) rfl;have a2:=f2.cell 0 (v:=.pointer (some ⟨A.bc s,0,none⟩)) rfl;have a3:=f3.cell 0 (v:=zi (c.op.key:Int)) rfl;have a7:=r4.txn ht 7 (v:=.map (some (A.bm s))) rfl;have ab:=r4.txn ht 3 (v:=zu (t.begin_:Int)) rfl;have hlk:=fun n=>lookup_run (r4.drewN n) ht c.op.key
 have hpx:A.px s t c.op.key=.pointer none:=by unfold Book.px;rw[hx];rfl
 rw[hpx] at hlk;have gd:=fun n=>(Grow.drewN A.L ((((w.alloc (.cells #[.pointer (some ⟨A.be,0,none⟩)] 31)).alloc (.cells #[.pointer (some ⟨A.bt s,0,none⟩)] 86)).alloc (.cells #[.pointer (some ⟨A.bc s,0,none⟩)] 88)).alloc (.cells #[zi (c.op.key:Int)] 3)) n).trans (Grow.drew A.L _)
 have HF:=zH (fun n=>zA (find_any (r4.drewN n).drew s c.op.key t.begin_ (.func (.func 111) #[] #[.pointer (some ⟨w.heap.size+1+1,0,none⟩),.pointer (some ⟨w.heap.size+1,0,none⟩),.pointer (some ⟨w.heap.size+1+1+1,0,none⟩),.pointer (some ⟨w.heap.size,0,none⟩)]) .change ⟨_,_,_,_,rfl,f2.box.grow (gd n),f1.box.grow (gd n),f3.box.grow (gd n),f0.box.grow (gd n)⟩) (g4.trans (gd n)));clear hR ht hc hx r3 g3 r4 g4 f0 f1 f2 f3 gd hpx;generalize c.op.key=key at*;generalize t.begin_=bg at*;go_enter Tryz.func81,Tryz.ntmps81;go_wp2_with fail;generalize (((w.alloc _).alloc _).alloc _).alloc _=w4 at*
 go_quiet (fail)
 go_wp2_with fail;generalize hw5:w4.drewN _=w5;have e0:w5.cell? ⟨w.heap.size,0,none⟩=some (.pointer (some ⟨A.be,0,none⟩)):=by rw[←hw5];exact a0
 have e1:w5.cell? ⟨w.heap.size+1,0,none⟩=some (.pointer (some ⟨A.bt s,0,none⟩)):=by rw[←hw5];exact a1
 have e3:w5.cell? ⟨w.heap.size+1+1+1,0,none⟩=some (zi (key:Int)):=by rw[←hw5];exact a3
 have eb:w5.cell? ⟨A.bt s,3,none⟩=some (zu (bg:Int)):=by rw[←hw5];exact ab
 have HF0:∀ n,w4.drewN n=w5→Calls Tryz.prog 95 #[.pointer (some ⟨A.be,0,none⟩),.pointer (some ⟨A.bt s,0,none⟩),zi (key:Int),zu (bg:Int),.func (.func 111) #[] #[.pointer (some ⟨w.heap.size+1+1,0,none⟩),.pointer (some ⟨w.heap.size+1,0,none⟩),.pointer (some ⟨w.heap.size+1+1+1,0,none⟩),.pointer (some ⟨w.heap.size,0,none⟩)]] w5.drew (Tells A w5.drew s (σ,.start ⟨key,bg,.change⟩))∧Grow A.L w A.L w5.drew:=fun n h=>by rw[←h];exact HF.out n
 have HF1:=HF0 _ hw5;have HF2:=zH HF1;clear a0 a1 a2 a3 a7 ab hlk HF HF0 HF1 hw5;refine wp_region_still_tail 8 (by kernel_rfl) (by kernel_rfl) ?_;simp only[zta,ztb,ztc,ztd]
 repeat still_step
 refine wpStill_nil ?_;go_wp2_with (go_at_call 95;refine (HF2.out.1).mono ?_;rintro e w2 ⟨A2,v,rfl,p1,p2,p3,p4⟩);go_ret;exact⟨A2,v,rfl,p1,HF2.out.2.trans p2,p3,p4⟩
theorem first_tells (hR:Rep A σ w) (s:Nat) (c:Cal) (hc:σ.calls.getD s none=some c) (Q:Ending→World→Prop) (h1:c.op.kind=1→Calls Tryz.prog 77 #[.pointer (some ⟨A.be,0,none⟩),.pointer (some ⟨A.bt s,0,none⟩),.pointer (some ⟨A.bc s,0,none⟩)] w Q) (h5:c.op.kind=5→Calls Tryz.prog 78 #[.pointer (some ⟨A.be,0,none⟩),.pointer (some ⟨A.bt s,0,none⟩),.pointer (some ⟨A.bc s,0,none⟩),zi (c.op.key:Int)] w Q) (h6:c.op.kind=6→Calls Tryz.prog 79 #[.pointer (some ⟨A.be,0,none⟩),.pointer (some ⟨A.bt s,0,none⟩),.pointer (some ⟨A.bc s,0,none⟩)] w Q) (h7:c.op.kind=7→Calls Tryz.prog 80 #[.pointer (some ⟨A.be,0,none⟩),.pointer (some ⟨A.bt s,0,none⟩),.pointer (some ⟨A.bc s,0,none⟩),zi 0,zi 1] w Q)
 (hz:c.op.kind≠1→c.op.kind≠5→c.op.kind≠6→c.op.kind≠7→Calls Tryz.prog 81 #[.pointer (some ⟨A.be,0,none⟩),.pointer (some ⟨A.bt s,0,none⟩),.pointer (some ⟨A.bc s,0,none⟩)] w Q) (hQ:∀ e w',Q e w'→∃ v,e=.returned v):
 Calls Tryz.prog 56 #[.pointer (some ⟨A.be,0,none⟩),.pointer (some ⟨A.bt s,0,none⟩),.pointer (some ⟨A.bc s,0,none⟩)] w Q:=by
 have k0:w.cell? ⟨A.bc s,0,none⟩=some (zi (c.op.kind:Int)):=hR.call hc 0 rfl;have k1:w.cell? ⟨A.bc s,1,none⟩=some (zi (c.op.key:Int)):=hR.call hc 1 rfl;clear hR hc;generalize c.op.kind=kd at*;generalize c.op.key=key at*;have HQ:=zH hQ;clear hQ
 by_cases k1':kd=1
 · subst k1'
   have k0':w.cell? ⟨A.bc s,0,none⟩=some (zi 1):=k0;clear k0;have HC:=zH (h1 rfl);clear h1 h5 h6 h7 hz;go_enter Tryz.func56,Tryz.ntmps56;go_wp2_with (go_at_call 77;refine HC.out.mono ?_;intro e w2 hq;obtain⟨v,rfl⟩:=HQ.out e w2 hq;have HV:=zH hq;clear hq);exact HV.out
 · skip
   by_cases k5':kd=5
   · subst k5'
     have k0':w.cell? ⟨A.bc s,0,none⟩=some (zi 5):=k0;clear k0;have HC:=zH (h5 rfl);clear h1 h5 h6 h7 hz;clear k1';go_enter Tryz.func56,Tryz.ntmps56;go_wp2_with (go_at_call 78;refine HC.out.mono ?_;intro e w2 hq;obtain⟨v,rfl⟩:=HQ.out e w2 hq;have HV:=zH hq;clear hq);exact HV.out
   · skip
     by_cases k6':kd=6
     · subst k6'
       have k0':w.cell? ⟨A.bc s,0,none⟩=some (zi 6):=k0;clear k0;have HC:=zH (h6 rfl);clear h1 h5 h6 h7 hz;clear k1' k5';go_enter Tryz.func56,Tryz.ntmps56;go_wp2_with (go_at_call 79;refine HC.out.mono ?_;intro e w2 hq;obtain⟨v,rfl⟩:=HQ.out e w2 hq;have HV:=zH hq;clear hq);exact HV.out
     · skip
       by_cases k7':kd=7
       · subst k7'
         have k0':w.cell? ⟨A.bc s,0,none⟩=some (zi 7):=k0;clear k0;have HC:=zH (h7 rfl);clear h1 h5 h6 h7 hz;clear k1' k5' k6';go_enter Tryz.func56,Tryz.ntmps56;go_wp2_with (go_at_call 80;refine HC.out.mono ?_;intro e w2 hq;obtain⟨v,rfl⟩:=HQ.out e w2 hq;have HV:=zH hq;clear hq);exact HV.out
       · skip
         have a1:((kd:Int)==1)=false:=by simp;omega
         have b1:((kd:Int)=1)=False:=by simp;omega
         have n1:(kd=1)=False:=by simp;omega
         have a5:((kd:Int)==5)=false:=by simp;omega
         have b5:((kd:Int)=5)=False:=by simp;omega
         have n5:(kd=5)=False:=by simp;omega
         have a6:((kd:Int)==6)=false:=by simp;omega
         have b6:((kd:Int)=6)=False:=by simp;omega
         have n6:(kd=6)=False:=by simp;omega
         have a7:((kd:Int)==7)=false:=by simp;omega
         have b7:((kd:Int)=7)=False:=by simp;omega
         have n7:(kd=7)=False:=by simp;omega
         have HC:=zH (hz k1' k5' k6' k7');clear h1 h5 h6 h7 hz;clear k1' k5' k6' k7';go_enter Tryz.func56,Tryz.ntmps56;go_wp2_with (go_at_call 81;refine HC.out.mono ?_;intro e w2 hq;obtain⟨v,rfl⟩:=HQ.out e w2 hq;have HV:=zH hq;clear hq);exact HV.out
def Told (A:Book) (w:World) (s:Nat) (σ':St):Ending→World→Prop:=fun e w'=>e=.returned (.tuple #[])∧∃ A',Rep A' σ' w'∧Grow A.L w A'.L w'∧Stay A A' s∧A'.bx=A.bx∧A'.vpairs=A.vpairs
theorem tell1_any (hR:Rep A σ w) (s:Nat) (t:Txn) (ht:σ.txns.getD s none=some t) (e:Ev) (kk tt rr:Int) (hcs:evCs e (.slice none 0 0)=[zi kk,zi tt,zu 0,zi 0,zi 0,zi 0,zi 0,zi 0,zi 0,.slice none 0 0,zi 0,zi rr]) (hp:e.res.pairs=[]) (hn:σ.tale.length<1000000) (b0 b1 b2:Nat) (B0:Box A.L w b0 (.pointer (some ⟨A.bt s,0,none⟩))) (B1:Box A.L w b1 (.pointer (some ⟨A.be,0,none⟩))) (TT:TypeId) (X2:Fix A.L w b2 (.cells #[zi kk,zi tt,zu 0,zi 0,zi 0,zi 0,zi 0,zi 0,zi 0,.slice none 0 0,zi 0,zi rr] TT)):
 Calls Tryz.prog 134 #[.pointer (some ⟨b0,0,none⟩),.pointer (some ⟨b1,0,none⟩),.pointer (some ⟨b2,0,none⟩)] w (Told A w s (σ.event e)):=by
 have c0:=B0.cell;have t13:w.cell? ⟨A.bt s,13,none⟩=some (.bool (A.vover s)):=hR.txn ht 13 rfl;have z13:=hR.txnF ht 13;obtain⟨r1,g1⟩:=hR.txnOver ht true;have B1':=(B1.grow g1).cell;have X2':=X2.grow g1;have x0:=X2'.cell 0 (v:=zi kk) rfl;have x1:=X2'.cell 1 (v:=zi tt) rfl;have x2:=X2'.cell 2 (v:=zu 0) rfl;have x3:=X2'.cell 3 (v:=zi 0) rfl;have x4:=X2'.cell 4 (v:=zi 0) rfl;have x5:=X2'.cell 5 (v:=zi 0) rfl;have x6:=X2'.cell 6 (v:=zi 0) rfl;have x7:=X2'.cell 7 (v:=zi 0) rfl;have x8:=X2'.cell 8 (v:=zi 0) rfl;have x9:=X2'.cell 9 (v:=.slice none 0 0) rfl;have x10:=X2'.cell 10 (v:=zi 0) rfl;have x11:=X2'.cell 11 (v:=zi rr) rfl;have he:=event_any r1 s e kk tt 0 0 0 0 0 0 0 0 rr none 0 0 hcs (by rw[hp];exact PRow.nil _ _) hn;have HE:=zH (zA he g1);clear hR ht B0 B1 X2 X2' r1 g1 he hcs hp hn;go_enter Tryz.func134,Tryz.ntmps134;go_wp2_with (go_at_call 53;refine HE.out.1.mono ?_;rintro e' w2 ⟨rfl,A2,q1,q2,q3,q4,q5⟩)
 go_end0
 exact⟨rfl,A2,q1,HE.out.2.trans q2,⟨q3.bf,q3.ba,q3.bp,q3.bt,q3.bm,q3.bc,q3.vnext,q3.vcall,q3.vsweep,q3.mp,q3.mt,q3.bx,q3.vpairs⟩,q4,q5⟩
theorem tell_any (hR:Rep A σ w) (s:Nat) (t:Txn) (ht:σ.txns.getD s none=some t) (hm:A.mt s=0) (e:Ev) (kk tt rr:Int) (hcs:evCs e (.slice none 0 0)=[zi kk,zi tt,zu 0,zi 0,zi 0,zi 0,zi 0,zi 0,zi 0,.slice none 0 0,zi 0,zi rr]) (hp:e.res.pairs=[]) (hn:σ.tale.length<1000000):
 Calls Tryz.prog 106 #[.pointer (some ⟨A.be,0,none⟩),.pointer (some ⟨A.bt s,0,none⟩),.agg #[zi kk,zi tt,zu 0,zi 0,zi 0,zi 0,zi 0,zi 0,zi 0,.slice none 0 0,zi 0,zi rr]] w (Told A w s (σ.tellEnd s e)):=by
 obtain⟨r3,g3,f0,f1,f2⟩:=allocs3 hR #[.pointer (some ⟨A.be,0,none⟩)] 31 #[.pointer (some ⟨A.bt s,0,none⟩)] 86 #[zi kk,zi tt,zu 0,zi 0,zi 0,zi 0,zi 0,zi 0,zi 0,.slice none 0 0,zi 0,zi rr] 116;have a1:=f1.cell 0 (v:=.pointer (some ⟨A.bt s,0,none⟩)) rfl
 by_cases ho:t.over=true
 · have e0:σ.tellEnd s e=σ:=by unfold St.tellEnd;rw[txn_get ht,if_pos ho]
   rw[e0];have t10:=r3.txn ht 10 (v:=.int .u32 1) (by simp[txnCs,onceCs,ho]);have HD:=zH (fun fv=>do_done ⟨A.bt s,10,none⟩ fv _ t10);have HR:=zH (zA r3 g3);clear hR ht r3 g3 f0 f1 f2 hm hcs hp hn ho e0 t10;go_enter Tryz.func106,Tryz.ntmps106;go_wp2_with (go_at_call 120;refine (HD.out _).mono ?_;rintro e' w2 ⟨rfl,rfl⟩)
   go_end0
   exact⟨rfl,A,HR.out.1,HR.out.2,Stay.refl _ _,rfl,rfl⟩
 · have ho':t.over=false:=by simpa using ho
   have e0:σ.tellEnd s e=(σ.setT s {t with over:=true}).event e:=by unfold St.tellEnd;rw[txn_get ht,if_neg ho]
   rw[e0];have t10:=r3.txn ht 10 (v:=.int .u32 0) (by simp[txnCs,onceCs,ho']);have t11:=r3.txn ht 11 (v:=.int .i32 0) (by simp[txnCs,onceCs,hm]);have z10:=r3.txnF ht 10;have z11:=r3.txnF ht 11;obtain⟨r4,g4⟩:=r3.txnLock ht 1;have hf:=tell1_any r4 s t ht e kk tt rr hcs hp hn (w.heap.size+1) w.heap.size (w.heap.size+1+1) (f1.box.grow g4) (f0.box.grow g4) _ (f2.grow g4)
   have hd := do_first (A.bt s) 10 134 #[.pointer (some ⟨w.heap.size + 1, 0, none⟩), .pointer (some ⟨w.heap.size, 0, none⟩), .pointer (some ⟨w.heap.size + 1 + 1, 0, none⟩)] _ _ t10 t11 z10 z11 (enter_tell _) hf (by
     rintro w' ⟨A',q1,q2,q3,q4,q5⟩
     have ht':(σ.event e).txns.getD s none=some t:=ht
     have b10:=q1.txn ht' 10 (v:=.int .u32 0) (by simp[txnCs,onceCs,ho'])
     have b11:=q1.txn ht' 11 (v:=.int .i32 1) (by simp[txnCs,onceCs,q3.mt])
     have y10:=q1.txnF ht' 10
     have y11:=q1.txnF ht' 11
     rw[q3.bt] at b10 b11 y10 y11
     exact⟨b10,b11,y10,y11⟩)
   have HD:=zH hd;have HR:=zH (zA g3 g4);have HT:=zH (zA ht hm);clear hR ht r3 g3 f0 f1 f2 hm hcs hp hn ho ho' e0 t10 t11 z10 z11 r4 g4 hf hd;go_enter Tryz.func106,Tryz.ntmps106;go_wp2_with (go_at_call 120;refine HD.out.mono ?_;rintro e' w2 ⟨rfl,w3,⟨A',q1,q2,q3,q4,q5⟩,rfl⟩)
   go_end0
   have ht':(σ.event e).txns.getD s none=some t:=HT.out.1;obtain⟨k1,g5⟩:=q1.drew.txnDone ht';have ht2:((σ.event e).setT s {t with over:=true}).txns.getD s none=some {t with over:=true}:=by rw[getT_set (lt_of_txn ht'),if_pos rfl]
   obtain⟨k2,g6⟩:=k1.txnLock ht2 0;have gg:=((((HR.out.1.trans HR.out.2).trans q2).trans (Grow.drew _ _)).trans g5).trans g6;have eb:A'.bt s=A.bt s:=by rw[q3.bt]
   rw[eb] at k2 gg;refine⟨rfl,_,k2,gg,⟨q3.bf,q3.ba,q3.bp,q3.bt,q3.bm,q3.bc,q3.vnext,q3.vcall,q3.vsweep,q3.mp,?_,q3.bx,q3.vpairs⟩,q4,q5⟩;show (fun k=>if k=s then 0 else A'.mt k)=A.mt;rw[q3.mt]
   funext k
   show (if k=s then 0 else if k=s then 1 else A.mt k)=A.mt k
   by_cases hk:k=s
   · rw[if_pos hk,hk,HT.out.2]
   · rw[if_neg hk,if_neg hk]
theorem k_garbage_y (hR:Rep A σ w) (key ahead link b:Nat) (hv:VL σ link) (hw:σ.word (wslot link 1)<18446744073709551616) (hg:garbage (σ.word (wslot link 1)) σ.low=true) (hcnt:σ.count<4000000000000000000) (b0:Nat) (b1:Nat) (b2:Nat) (b3:Nat) (b4:Nat) (B0:Box A.L w b0 (zu (b:Int))) (B1:Box A.L w b1 (.pointer (some ⟨A.be,0,none⟩))) (B2:Box A.L w b2 (zu (link:Int))) (B3:Box A.L w b3 (zi (key:Int))) (B4:Box A.L w b4 (zu (ahead:Int))):
 Calls Tryz.prog 188 #[.pointer (some ⟨b0,0,none⟩),.pointer (some ⟨b1,0,none⟩),.pointer (some ⟨b2,0,none⟩),.pointer (some ⟨b3,0,none⟩),.pointer (some ⟨b4,0,none⟩)] w (SRan A σ w (σ.sweepRun (.garbage key ahead link b))):=by
 have c0:=B0.cell;have c1:=B1.cell;have c2:=B2.cell;have c3:=B3.cell;have c4:=B4.cell;have e2:=hR.z2;have e3:w.cell? ⟨A.be,26,none⟩=some (zu (σ.low:Int)):=hR.eng 26 rfl;have hsl:=hR.sl;have HS:=zH (slot_at link 1 1 rfl hv.lo (by have:=hv.hi;omega) hv.u (by omega));have HGA:=zH (garb_any b (σ.word (wslot link 1)) σ.low hw);have HL:Hid (∀ w',Rep A σ w'→Calls Tryz.prog 45 #[.pointer (some ⟨A.ba,0,none⟩),zi (((wslot link 1:Nat):Int))] w' (Did A w' σ.tick (zu (σ.word (wslot link 1):Int)))):=fun w' r=>load_i r (wslot link 1) (((wslot link 1:Nat):Int)) rfl (wslot_lt r hv.lo hv.hi (by omega)) hcnt
 have HRd:Hid (Rep A σ w.drew):=hR.drew;have HKK:Hid (∀ w',Rep A σ.tick w'→Grow A.L w A.L w'→w'.cell? ⟨b0,0,none⟩=some (zu (b:Int))∧w'.cell? ⟨b1,0,none⟩=some (.pointer (some ⟨A.be,0,none⟩))∧w'.cell? ⟨b2,0,none⟩=some (zu (link:Int))∧w'.cell? ⟨b3,0,none⟩=some (zi (key:Int))∧w'.cell? ⟨b4,0,none⟩=some (zu (ahead:Int))∧w'.cell? ⟨A.be,2,none⟩=some (.pointer (some ⟨A.ba,0,none⟩))∧w'.cell? ⟨A.be,26,none⟩=some (zu (σ.low:Int))):=fun w' r g=>⟨(B0.grow g).cell,(B1.grow g).cell,(B2.grow g).cell,(B3.grow g).cell,(B4.grow g).cell,r.eng 2 rfl,r.eng 26 rfl⟩
 have HKS:Hid (∀ w' x,Rep A σ.tick w'→Grow A.L w A.L w'→(w'.setCell ⟨A.be,25,none⟩ x).cell? ⟨b0,0,none⟩=some (zu (b:Int))∧(w'.setCell ⟨A.be,25,none⟩ x).cell? ⟨b1,0,none⟩=some (.pointer (some ⟨A.be,0,none⟩))∧(w'.setCell ⟨A.be,25,none⟩ x).cell? ⟨b2,0,none⟩=some (zu (link:Int))∧(w'.setCell ⟨A.be,25,none⟩ x).cell? ⟨b3,0,none⟩=some (zi (key:Int))∧(w'.setCell ⟨A.be,25,none⟩ x).cell? ⟨b4,0,none⟩=some (zu (ahead:Int))∧(w'.setCell ⟨A.be,25,none⟩ x).cell? ⟨A.be,2,none⟩=some (.pointer (some ⟨A.ba,0,none⟩))∧(w'.setCell ⟨A.be,25,none⟩ x).cell? ⟨A.be,26,none⟩=some (zu (σ.low:Int))):=fun w' x r g=>let ⟨r',g'⟩:=r.sweepSet x .now;⟨(B0.grow (g.trans g')).cell,(B1.grow (g.trans g')).cell,(B2.grow (g.trans g')).cell,(B3.grow (g.trans g')).cell,(B4.grow (g.trans g')).cell,r'.eng 2 rfl,r'.eng 26 rfl⟩
 have HM:Hid (∀ w',Rep A σ.tick w'→Calls Tryz.prog 186 #[.pointer (some ⟨A.be,0,none⟩),zi (key:Int),zu (ahead:Int),zu (link:Int)] w' (STells A σ.tick w' (some (.unlink key ahead link)))):=fun w' r=>sunlink_any r key ahead link
 have HG:=zG A.L w;clear hR hcnt B0 B1 B2 B3 B4;have HRES:σ.sweepRun (.garbage key ahead link b)=({σ.tick with sw:=some (.unlink key ahead link)},false):=by simp only[St.sweepRun,St.tick,hg];rfl
 rw[HRES];rw[hg] at HGA;clear hv hw hg hsl;generalize (σ.word (wslot link 1):Int)=hd at*;generalize ((wslot link 1:Nat):Int)=ix at*;have HLB:Hid (∀ w' w9,Rep A σ.tick w'→Below w'.heap.size w' w9→Rep A σ.tick w9∧Grow A.L w' A.L w9):=fun w' w9 r h=>⟨r.below h,Grow.below h⟩
 go_enter Tryz.func188,Tryz.ntmps188;go_wp2_with fail
 go_region_held3 (fun w'=>w'.cell? ⟨b0,0,none⟩=some (zu (b:Int))∧w'.cell? ⟨b1,0,none⟩=some (.pointer (some ⟨A.be,0,none⟩))∧w'.cell? ⟨b2,0,none⟩=some (zu (link:Int))∧w'.cell? ⟨b3,0,none⟩=some (zi (key:Int))∧w'.cell? ⟨b4,0,none⟩=some (zu (ahead:Int))∧w'.cell? ⟨A.be,2,none⟩=some (.pointer (some ⟨A.ba,0,none⟩))∧w'.cell? ⟨A.be,26,none⟩=some (zu (σ.low:Int)))
  (first|exact⟨c0,c1,c2,c3,c4,e2,e3⟩|assumption|go_keep|exact HKK.out _ (by assumption) (by assumption))
  (first|(go_at_call 37;refine (HS.out _).mono ?_;rintro e w9 ⟨rfl,rfl⟩)|(go_at_call 45;refine (HL.out _ HRd.out).mono ?_;rintro e w1 ⟨rfl,q1,q2⟩;have q4:=HG.out.trans q2;clear q2)|(go_at_call 189;refine (HGA.out _).mono ?_;rintro e w5 ⟨rfl,hb⟩;obtain⟨q5,q6⟩:=HLB.out _ _ (by assumption) hb;have q7:=(‹Grow A.L w A.L _›).trans q6;clear q6 hb))
 obtain⟨d0,d1,d2,d3,d4,d9,d10⟩:=HKK.out _ q5 q7;have HQ1:=zH q5.drew;have HG1:=zH (q7.trans (Grow.drew _ _));go_wp2_with fail
 go_region_held3 (fun w'=>w'.cell? ⟨b0,0,none⟩=some (zu (b:Int))∧w'.cell? ⟨b1,0,none⟩=some (.pointer (some ⟨A.be,0,none⟩))∧w'.cell? ⟨b2,0,none⟩=some (zu (link:Int))∧w'.cell? ⟨b3,0,none⟩=some (zi (key:Int))∧w'.cell? ⟨b4,0,none⟩=some (zu (ahead:Int))∧w'.cell? ⟨A.be,2,none⟩=some (.pointer (some ⟨A.ba,0,none⟩))∧w'.cell? ⟨A.be,26,none⟩=some (zu (σ.low:Int)))
  (first|exact⟨d0,d1,d2,d3,d4,d9,d10⟩|assumption|go_keep|exact HKK.out _ (by assumption) (by assumption)|exact HKS.out _ _ (by assumption) (by assumption))
  (first|(go_at_call 186;refine (HM.out _ HQ1.out).mono ?_;rintro e w2 ⟨v,rfl,p1,p2,p3⟩;obtain⟨fv,fb,fc,e3⟩:=SRep.form p3;subst e3;obtain⟨vo,y25⟩:∃ vo,w2.cell? ⟨A.be,25,none⟩=some vo:=⟨_,p1.eng 25 (v:=A.sv σ.tick.sw) rfl⟩;have z25:=p1.engF 25;have q5:=HG1.out.trans p2;have HP:=zH p3;clear p2 p3))
 go_wp2_with fail;go_ret;obtain⟨A',a1,a2,a3,a4,a5⟩:=p1.sweepPut _ _ HP.out;exact⟨rfl,A',a1,a3,q5.trans a4,a5,fun hc=>hc.keep a2 rfl (q5.trans a4)⟩
theorem k_garbage_n (hR:Rep A σ w) (key ahead link b:Nat) (hv:VL σ link) (hw:σ.word (wslot link 1)<18446744073709551616) (hg:garbage (σ.word (wslot link 1)) σ.low=false) (hcnt:σ.count<4000000000000000000) (b0:Nat) (b1:Nat) (b2:Nat) (b3:Nat) (b4:Nat) (B0:Box A.L w b0 (zu (b:Int))) (B1:Box A.L w b1 (.pointer (some ⟨A.be,0,none⟩))) (B2:Box A.L w b2 (zu (link:Int))) (B3:Box A.L w b3 (zi (key:Int))) (B4:Box A.L w b4 (zu (ahead:Int))):
 Calls Tryz.prog 188 #[.pointer (some ⟨b0,0,none⟩),.pointer (some ⟨b1,0,none⟩),.pointer (some ⟨b2,0,none⟩),.pointer (some ⟨b3,0,none⟩),.pointer (some ⟨b4,0,none⟩)] w (SRan A σ w (σ.sweepRun (.garbage key ahead link b))):=by
 have c0:=B0.cell;have c1:=B1.cell;have c2:=B2.cell;have c3:=B3.cell;have c4:=B4.cell;have e2:=hR.z2;have e3:w.cell? ⟨A.be,26,none⟩=some (zu (σ.low:Int)):=hR.eng 26 rfl;have hsl:=hR.sl;have HS:=zH (slot_at link 1 1 rfl hv.lo (by have:=hv.hi;omega) hv.u (by omega));have HGA:=zH (garb_any b (σ.word (wslot link 1)) σ.low hw);have HL:Hid (∀ w',Rep A σ w'→Calls Tryz.prog 45 #[.pointer (some ⟨A.ba,0,none⟩),zi (((wslot link 1:Nat):Int))] w' (Did A w' σ.tick (zu (σ.word (wslot link 1):Int)))):=fun w' r=>load_i r (wslot link 1) (((wslot link 1:Nat):Int)) rfl (wslot_lt r hv.lo hv.hi (by omega)) hcnt
 have HRd:Hid (Rep A σ w.drew):=hR.drew;have HKK:Hid (∀ w',Rep A σ.tick w'→Grow A.L w A.L w'→w'.cell? ⟨b0,0,none⟩=some (zu (b:Int))∧w'.cell? ⟨b1,0,none⟩=some (.pointer (some ⟨A.be,0,none⟩))∧w'.cell? ⟨b2,0,none⟩=some (zu (link:Int))∧w'.cell? ⟨b3,0,none⟩=some (zi (key:Int))∧w'.cell? ⟨b4,0,none⟩=some (zu (ahead:Int))∧w'.cell? ⟨A.be,2,none⟩=some (.pointer (some ⟨A.ba,0,none⟩))∧w'.cell? ⟨A.be,26,none⟩=some (zu (σ.low:Int))):=fun w' r g=>⟨(B0.grow g).cell,(B1.grow g).cell,(B2.grow g).cell,(B3.grow g).cell,(B4.grow g).cell,r.eng 2 rfl,r.eng 26 rfl⟩
 have HKS:Hid (∀ w' x,Rep A σ.tick w'→Grow A.L w A.L w'→(w'.setCell ⟨A.be,25,none⟩ x).cell? ⟨b0,0,none⟩=some (zu (b:Int))∧(w'.setCell ⟨A.be,25,none⟩ x).cell? ⟨b1,0,none⟩=some (.pointer (some ⟨A.be,0,none⟩))∧(w'.setCell ⟨A.be,25,none⟩ x).cell? ⟨b2,0,none⟩=some (zu (link:Int))∧(w'.setCell ⟨A.be,25,none⟩ x).cell? ⟨b3,0,none⟩=some (zi (key:Int))∧(w'.setCell ⟨A.be,25,none⟩ x).cell? ⟨b4,0,none⟩=some (zu (ahead:Int))∧(w'.setCell ⟨A.be,25,none⟩ x).cell? ⟨A.be,2,none⟩=some (.pointer (some ⟨A.ba,0,none⟩))∧(w'.setCell ⟨A.be,25,none⟩ x).cell? ⟨A.be,26,none⟩=some (zu (σ.low:Int))):=fun w' x r g=>let ⟨r',g'⟩:=r.sweepSet x .now;⟨(B0.grow (g.trans g')).cell,(B1.grow (g.trans g')).cell,(B2.grow (g.trans g')).cell,(B3.grow (g.trans g')).cell,(B4.grow (g.trans g')).cell,r'.eng 2 rfl,r'.eng 26 rfl⟩
 have HM:Hid (∀ w',Rep A σ.tick w'→Calls Tryz.prog 187 #[.pointer (some ⟨A.be,0,none⟩),zi (key:Int),zu (link:Int)] w' (STells A σ.tick w' (some (.on key link)))):=fun w' r=>son_any r key link
 have HG:=zG A.L w;clear hR hcnt B0 B1 B2 B3 B4;have HRES:σ.sweepRun (.garbage key ahead link b)=({σ.tick with sw:=some (.on key link)},false):=by simp only[St.sweepRun,St.tick,hg];rfl
 rw[HRES];rw[hg] at HGA;clear hv hw hg hsl;generalize (σ.word (wslot link 1):Int)=hd at*;generalize ((wslot link 1:Nat):Int)=ix at*;have HLB:Hid (∀ w' w9,Rep A σ.tick w'→Below w'.heap.size w' w9→Rep A σ.tick w9∧Grow A.L w' A.L w9):=fun w' w9 r h=>⟨r.below h,Grow.below h⟩
 go_enter Tryz.func188,Tryz.ntmps188;go_wp2_with fail
 go_region_held3 (fun w'=>w'.cell? ⟨b0,0,none⟩=some (zu (b:Int))∧w'.cell? ⟨b1,0,none⟩=some (.pointer (some ⟨A.be,0,none⟩))∧w'.cell? ⟨b2,0,none⟩=some (zu (link:Int))∧w'.cell? ⟨b3,0,none⟩=some (zi (key:Int))∧w'.cell? ⟨b4,0,none⟩=some (zu (ahead:Int))∧w'.cell? ⟨A.be,2,none⟩=some (.pointer (some ⟨A.ba,0,none⟩))∧w'.cell? ⟨A.be,26,none⟩=some (zu (σ.low:Int)))
  (first|exact⟨c0,c1,c2,c3,c4,e2,e3⟩|assumption|go_keep|exact HKK.out _ (by assumption) (by assumption))
  (first|(go_at_call 37;refine (HS.out _).mono ?_;rintro e w9 ⟨rfl,rfl⟩)|(go_at_call 45;refine (HL.out _ HRd.out).mono ?_;rintro e w1 ⟨rfl,q1,q2⟩;have q4:=HG.out.trans q2;clear q2)|(go_at_call 189;refine (HGA.out _).mono ?_;rintro e w5 ⟨rfl,hb⟩;obtain⟨q5,q6⟩:=HLB.out _ _ (by assumption) hb;have q7:=(‹Grow A.L w A.L _›).trans q6;clear q6 hb))
 obtain⟨d0,d1,d2,d3,d4,d9,d10⟩:=HKK.out _ q5 q7;have HQ1:=zH q5.drew;have HG1:=zH (q7.trans (Grow.drew _ _));go_wp2_with fail
 go_region_held3 (fun w'=>w'.cell? ⟨b0,0,none⟩=some (zu (b:Int))∧w'.cell? ⟨b1,0,none⟩=some (.pointer (some ⟨A.be,0,none⟩))∧w'.cell? ⟨b2,0,none⟩=some (zu (link:Int))∧w'.cell? ⟨b3,0,none⟩=some (zi (key:Int))∧w'.cell? ⟨b4,0,none⟩=some (zu (ahead:Int))∧w'.cell? ⟨A.be,2,none⟩=some (.pointer (some ⟨A.ba,0,none⟩))∧w'.cell? ⟨A.be,26,none⟩=some (zu (σ.low:Int)))
  (first|exact⟨d0,d1,d2,d3,d4,d9,d10⟩|assumption|go_keep|exact HKK.out _ (by assumption) (by assumption)|exact HKS.out _ _ (by assumption) (by assumption))
  (first|(go_at_call 187;refine (HM.out _ HQ1.out).mono ?_;rintro e w2 ⟨v,rfl,p1,p2,p3⟩;obtain⟨fv,fb,fc,e3⟩:=SRep.form p3;subst e3;obtain⟨vo,y25⟩:∃ vo,w2.cell? ⟨A.be,25,none⟩=some vo:=⟨_,p1.eng 25 (v:=A.sv σ.tick.sw) rfl⟩;have z25:=p1.engF 25;have q5:=HG1.out.trans p2;have HP:=zH p3;clear p2 p3))
 go_wp2_with fail;go_ret;obtain⟨A',a1,a2,a3,a4,a5⟩:=p1.sweepPut _ _ HP.out;exact⟨rfl,A',a1,a3,q5.trans a4,a5,fun hc=>hc.keep a2 rfl (q5.trans a4)⟩
end Go.Proofs.YtmgghljjjpcgkaaGreat.Em
