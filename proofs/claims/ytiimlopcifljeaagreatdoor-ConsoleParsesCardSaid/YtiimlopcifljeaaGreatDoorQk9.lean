import Derived.Test.YtiimlopcifljeaaGreatDoorQk6
namespace Go.Proofs.YtiimlopcifljeaaGreatDoor.Em
open Go.ChangeShapes Go.WideShapes Go.ChangeAt Go.RowKit En
set_option linter.unusedVariables false
set_option linter.unusedSimpArgs false
set_option maxRecDepth 100000
set_option maxHeartbeats 1600000
variable {A:Book} {σ:St} {w:World}
theorem change_none (hR:Rep A σ w) (s:Nat) (t:Txn) (ht:σ.txns.getD s none=some t) (c:Cal) (hc:σ.calls.getD s none=some c) (hx:t.cell c.op.key=none):
 Calls Tryz.prog 171 #[.pointer (some ⟨A.be,0,none⟩),.pointer (some ⟨A.bt s,0,none⟩),.pointer (some ⟨A.bc s,0,none⟩)] w (Tells A w s (σ,.start ⟨c.op.key,t.begin_,.change⟩)):=by
 obtain⟨r3,g3,_,_,_⟩:=allocs3 hR #[.pointer (some ⟨A.be,0,none⟩)] 85 #[.pointer (some ⟨A.bt s,0,none⟩)] 123 #[.pointer (some ⟨A.bc s,0,none⟩)] 125;have k1:=r3.call hc 1 (v:=zi (c.op.key:Int)) rfl;obtain⟨r4,g4,f0,f1,f2,f3⟩:=allocs4 hR #[.pointer (some ⟨A.be,0,none⟩)] 85 #[.pointer (some ⟨A.bt s,0,none⟩)] 123 #[.pointer (some ⟨A.bc s,0,none⟩)] 125 #[zi (c.op.key:Int)] 3;have a0:=f0.cell 0 (v:=.pointer (some ⟨A.be,0,none⟩)) rfl;have a1:=f1.cell 0 (v:=.pointer (some ⟨A.bt s,0,none⟩)) rfl;have a2:=f2.cell 0 (v:=.pointer (some ⟨A.bc s,0,none⟩)) rfl;have a3:=f3.cell 0 (v:=zi (c.op.key:Int)) rfl;have a7:=r4.txn ht 7 (v:=.map (some (A.bm s))) rfl;have ab:=r4.txn ht 3 (v:=zu (t.begin_:Int)) rfl;have hlk:=fun n=>lookup_run (r4.drewN n) ht c.op.key
 have hpx:A.px s t c.op.key=.pointer none:=by unfold Book.px;rw[hx];rfl
 rw[hpx] at hlk;have gd:=fun n=>(Grow.drewN A.L ((((w.alloc (.cells #[.pointer (some ⟨A.be,0,none⟩)] 85)).alloc (.cells #[.pointer (some ⟨A.bt s,0,none⟩)] 123)).alloc (.cells #[.pointer (some ⟨A.bc s,0,none⟩)] 125)).alloc (.cells #[zi (c.op.key:Int)] 3)) n).trans (Grow.drew A.L _)
 have HF:=zH (fun n=>zA (find_any (r4.drewN n).drew s c.op.key t.begin_ (.func (.func 212) #[] #[.pointer (some ⟨w.heap.size+1+1,0,none⟩),.pointer (some ⟨w.heap.size+1,0,none⟩),.pointer (some ⟨w.heap.size+1+1+1,0,none⟩),.pointer (some ⟨w.heap.size,0,none⟩)]) .change ⟨_,_,_,_,rfl,f2.box.grow (gd n),f1.box.grow (gd n),f3.box.grow (gd n),f0.box.grow (gd n)⟩) (g4.trans (gd n)));clear hR ht hc hx r3 g3 r4 g4 f0 f1 f2 f3 gd hpx;generalize c.op.key=key at*;generalize t.begin_=bg at*;go_enter Tryz.func171,Tryz.ntmps171;go_wp2_with fail;generalize (((w.alloc _).alloc _).alloc _).alloc _=w4 at*
 go_quiet (fail)
 go_wp2_with fail;generalize hw5:w4.drewN _=w5;have e0:w5.cell? ⟨w.heap.size,0,none⟩=some (.pointer (some ⟨A.be,0,none⟩)):=by rw[←hw5];exact a0
 have e1:w5.cell? ⟨w.heap.size+1,0,none⟩=some (.pointer (some ⟨A.bt s,0,none⟩)):=by rw[←hw5];exact a1
 have e3:w5.cell? ⟨w.heap.size+1+1+1,0,none⟩=some (zi (key:Int)):=by rw[←hw5];exact a3
 have eb:w5.cell? ⟨A.bt s,3,none⟩=some (zu (bg:Int)):=by rw[←hw5];exact ab
 have HF0:∀ n,w4.drewN n=w5→Calls Tryz.prog 196 #[.pointer (some ⟨A.be,0,none⟩),.pointer (some ⟨A.bt s,0,none⟩),zi (key:Int),zu (bg:Int),.func (.func 212) #[] #[.pointer (some ⟨w.heap.size+1+1,0,none⟩),.pointer (some ⟨w.heap.size+1,0,none⟩),.pointer (some ⟨w.heap.size+1+1+1,0,none⟩),.pointer (some ⟨w.heap.size,0,none⟩)]] w5.drew (Tells A w5.drew s (σ,.start ⟨key,bg,.change⟩))∧Grow A.L w A.L w5.drew:=fun n h=>by rw[←h];exact HF.out n
 have HF1:=HF0 _ hw5;have HF2:=zH HF1;clear a0 a1 a2 a3 a7 ab hlk HF HF0 HF1 hw5;refine wp_region_still_tail 8 (by kernel_rfl) (by kernel_rfl) ?_;simp only[zta,ztb,ztc,ztd]
 repeat still_step
 refine wpStill_nil ?_;go_wp2_with (go_at_call 196;refine (HF2.out.1).mono ?_;rintro e w2 ⟨A2,v,rfl,p1,p2,p3,p4⟩);go_ret;exact⟨A2,v,rfl,p1,HF2.out.2.trans p2,p3,p4⟩
theorem first_tells (hR:Rep A σ w) (s:Nat) (c:Cal) (hc:σ.calls.getD s none=some c) (Q:Ending→World→Prop) (h1:c.op.kind=1→Calls Tryz.prog 167 #[.pointer (some ⟨A.be,0,none⟩),.pointer (some ⟨A.bt s,0,none⟩),.pointer (some ⟨A.bc s,0,none⟩)] w Q) (h5:c.op.kind=5→Calls Tryz.prog 168 #[.pointer (some ⟨A.be,0,none⟩),.pointer (some ⟨A.bt s,0,none⟩),.pointer (some ⟨A.bc s,0,none⟩),zi (c.op.key:Int)] w Q) (h6:c.op.kind=6→Calls Tryz.prog 169 #[.pointer (some ⟨A.be,0,none⟩),.pointer (some ⟨A.bt s,0,none⟩),.pointer (some ⟨A.bc s,0,none⟩)] w Q) (h7:c.op.kind=7→Calls Tryz.prog 170 #[.pointer (some ⟨A.be,0,none⟩),.pointer (some ⟨A.bt s,0,none⟩),.pointer (some ⟨A.bc s,0,none⟩),zi 0,zi 1] w Q)
 (hz:c.op.kind≠1→c.op.kind≠5→c.op.kind≠6→c.op.kind≠7→Calls Tryz.prog 171 #[.pointer (some ⟨A.be,0,none⟩),.pointer (some ⟨A.bt s,0,none⟩),.pointer (some ⟨A.bc s,0,none⟩)] w Q) (hQ:∀ e w',Q e w'→∃ v,e=.returned v):
 Calls Tryz.prog 132 #[.pointer (some ⟨A.be,0,none⟩),.pointer (some ⟨A.bt s,0,none⟩),.pointer (some ⟨A.bc s,0,none⟩)] w Q:=by
 have k0:w.cell? ⟨A.bc s,0,none⟩=some (zi (c.op.kind:Int)):=hR.call hc 0 rfl;have k1:w.cell? ⟨A.bc s,1,none⟩=some (zi (c.op.key:Int)):=hR.call hc 1 rfl;clear hR hc;generalize c.op.kind=kd at*;generalize c.op.key=key at*;have HQ:=zH hQ;clear hQ
 by_cases k1':kd=1
 · subst k1'
   have k0':w.cell? ⟨A.bc s,0,none⟩=some (zi 1):=k0;clear k0;have HC:=zH (h1 rfl);clear h1 h5 h6 h7 hz;go_enter Tryz.func132,Tryz.ntmps132;go_wp2_with (go_at_call 167;refine HC.out.mono ?_;intro e w2 hq;obtain⟨v,rfl⟩:=HQ.out e w2 hq;have HV:=zH hq;clear hq);exact HV.out
 · skip
   by_cases k5':kd=5
   · subst k5'
     have k0':w.cell? ⟨A.bc s,0,none⟩=some (zi 5):=k0;clear k0;have HC:=zH (h5 rfl);clear h1 h5 h6 h7 hz;clear k1';go_enter Tryz.func132,Tryz.ntmps132;go_wp2_with (go_at_call 168;refine HC.out.mono ?_;intro e w2 hq;obtain⟨v,rfl⟩:=HQ.out e w2 hq;have HV:=zH hq;clear hq);exact HV.out
   · skip
     by_cases k6':kd=6
     · subst k6'
       have k0':w.cell? ⟨A.bc s,0,none⟩=some (zi 6):=k0;clear k0;have HC:=zH (h6 rfl);clear h1 h5 h6 h7 hz;clear k1' k5';go_enter Tryz.func132,Tryz.ntmps132;go_wp2_with (go_at_call 169;refine HC.out.mono ?_;intro e w2 hq;obtain⟨v,rfl⟩:=HQ.out e w2 hq;have HV:=zH hq;clear hq);exact HV.out
     · skip
       by_cases k7':kd=7
       · subst k7'
         have k0':w.cell? ⟨A.bc s,0,none⟩=some (zi 7):=k0;clear k0;have HC:=zH (h7 rfl);clear h1 h5 h6 h7 hz;clear k1' k5' k6';go_enter Tryz.func132,Tryz.ntmps132;go_wp2_with (go_at_call 170;refine HC.out.mono ?_;intro e w2 hq;obtain⟨v,rfl⟩:=HQ.out e w2 hq;have HV:=zH hq;clear hq);exact HV.out
       · skip
         have a1:((kd:Int)==1)=false:=by simp;omega
         have b1:((kd:Int)=1)=False:=by simp;omega
         have n1:(kd=1)=False:=by simp;omega
         have a5:((kd:Int)==5)=false:=by simp;omega
         have b5:((kd:Int)=5)=False:=by simp;omega
         have n5:(kd=5)=False:=by simp;omega
         have a6:((kd:Int)==6)=false:=by simp;omega
         have b6:((kd:Int)=6)=False:=by simp;omega
         have n6:(kd=6)=False:=by simp;omega
         have a7:((kd:Int)==7)=false:=by simp;omega
         have b7:((kd:Int)=7)=False:=by simp;omega
         have n7:(kd=7)=False:=by simp;omega
         have HC:=zH (hz k1' k5' k6' k7');clear h1 h5 h6 h7 hz;clear k1' k5' k6' k7';go_enter Tryz.func132,Tryz.ntmps132;go_wp2_with (go_at_call 171;refine HC.out.mono ?_;intro e w2 hq;obtain⟨v,rfl⟩:=HQ.out e w2 hq;have HV:=zH hq;clear hq);exact HV.out
theorem ThnRep.enter {p:KP} {L:Lab} {w:World} {v:Value} {key:Nat} {t:Thn} (h:ThnRep p L w v key t):∃ f c,v=.func (.func f) #[] c∧∀ args w,(callFunc f args).run Tryz.prog w=.ok (.enter f args) w:=by
 cases t
 · obtain⟨b0,b1,b2,b3,e,_⟩:=h;exact⟨_,_,e,fun args w=>by kernel_rfl⟩
 · obtain⟨b0,b1,b2,b3,b4,e,_⟩:=h;exact⟨_,_,e,fun args w=>by kernel_rfl⟩
 · obtain⟨b0,b1,b2,b3,e,_⟩:=h;exact⟨_,_,e,fun args w=>by kernel_rfl⟩
 · obtain⟨b0,b1,b2,b3,b4,e,_⟩:=h;exact⟨_,_,e,fun args w=>by kernel_rfl⟩
def ThnAt (A:Book) (w:World) (σ:St) (s:Nat) (hu:Hunt) (link:Nat):Prop:=∀ w1 f c,Rep A σ w1→Grow A.L w A.L w1→ThnRep (kp A σ s) A.L w1 (.func (.func f) #[] c) hu.key hu.thn→Calls Tryz.prog f (#[zu (link:Int)]++c) w1 (Tells A w1 s (σ.thn s hu link))
theorem visit_any (hR:Rep A σ w) (s:Nat) (bh:Nat) (hu:Hunt) (hh:HuntAt (kp A σ s) A.L w bh hu) (link:Nat) (HT:link=0→ThnAt A w σ s hu 0):
 Calls Tryz.prog 275 #[.pointer (some ⟨bh,0,none⟩),zu (link:Int)] w (Tells A w s (σ.visit s hu link)):=by
 obtain⟨r1,g1,f0,f1⟩:=allocs2 hR #[.pointer (some ⟨bh,0,none⟩)] 355 #[zu (link:Int)] 33;have c0:=f0.cell 0 (v:=.pointer (some ⟨bh,0,none⟩)) rfl;have c1:=f1.cell 0 (v:=zu (link:Int)) rfl;have hh1:=hh.grow g1
 by_cases h0:link=0
 · have e0:σ.visit s hu link=σ.thn s hu 0:=by unfold St.visit;rw[if_pos h0]
   rw[e0];obtain⟨vt,TT,fh,hth⟩:=hh1;obtain⟨fv,cv,rfl,hent⟩:=hth.enter;have d1:((link:Int)==0)=true:=by simpa using h0
   have d3:((link:Int)=0)=True:=by simpa using h0
   have h4:=fh.cell 4 (v:=.func (.func fv) #[] cv) rfl;have hf:=HT h0 _ fv cv r1 g1 hth;have HF:=zH (zA hf g1);clear hR hh r1 g1 f0 f1 fh hth hf HT h0 e0;go_enter Tryz.func275,Tryz.ntmps275;go_wp2_with fail;refine HF.out.1.mono ?_;rintro e w3 ⟨A',v,rfl,q1,q2,q3,q4⟩;go_wp2_with fail;go_ret;exact⟨A',v,rfl,q1,HF.out.2.trans q2,q3,q4⟩
 · have e0:σ.visit s hu link=(σ,.visit hu link):=by unfold St.visit;rw[if_neg h0]
   rw[e0];have d1:((link:Int)==0)=false:=by simpa using h0
   have d3:((link:Int)=0)=False:=by simpa using h0
   have HQ:=zH (zA r1 (zA g1 (zA f0 (zA f1 hh1))));clear hR hh r1 g1 f0 f1 hh1 HT h0 e0;go_enter Tryz.func275,Tryz.ntmps275;go_wp2_with fail;go_ret;obtain⟨r1,g1,f0,f1,hh1⟩:=HQ.out;exact⟨A,_,rfl,r1,g1,Stay.refl _ _,_,_,rfl,⟨_,f0.box,hh1⟩,f1.box⟩
theorem k_start (hR:Rep A σ w) (s:Nat) (hu:Hunt) (bh:Nat) (hh:HuntAt (kp A σ s) A.L w bh hu) (hk:hu.key<64) (hcnt:σ.count<4000000000000000000) (HT:σ.word (9+hu.key)=0→∀ w1,Rep A σ.tick w1→Grow A.L w A.L w1→ThnAt A w1 σ.tick s hu 0):
 Calls Tryz.prog 241 #[.pointer (some ⟨bh,0,none⟩)] w (Ran A w s (σ.run s (.start hu))):=by
 have hh0:=hh;obtain⟨vt,TT,fh,hth⟩:=hh;have h0:=fh.cell 0 (v:=.pointer (some ⟨A.be,0,none⟩)) rfl;have h2:=fh.cell 2 (v:=zi (hu.key:Int)) rfl;have e2:=hR.z2;have n1:IntKind.i64.wrap (9+(hu.key:Int))=9+(hu.key:Int):=by rw[IntKind.wrap_i64];omega
 have HL:=zH (load_i hR.drew (9+hu.key) (9+(hu.key:Int)) (by omega) (by rw[hR.nw];omega) hcnt);have HG:=zG A.L w;have HK:Hid (∀ w',Kp A w w'→w'.cell? ⟨bh,0,none⟩=some (.pointer (some ⟨A.be,0,none⟩))∧w'.cell? ⟨bh,2,none⟩=some (zi (hu.key:Int))∧w'.cell? ⟨A.be,2,none⟩=some (.pointer (some ⟨A.ba,0,none⟩))):=fun w' k=>⟨k.fix _ _ _ fh.1 h0,k.fix _ _ _ fh.1 h2,k.ea⟩
 have HB:Hid (∀ w1,Rep A σ.tick w1→Grow A.L w A.L w1→Calls Tryz.prog 275 #[.pointer (some ⟨bh,0,none⟩),zu (σ.word (9+hu.key):Int)] w1 (Tells A w1 s (σ.tick.visit s hu (σ.word (9+hu.key))))):=
  fun w1 r g=>visit_any r s bh hu (hh0.grow g) _ fun hz=>HT hz w1 r g
 have hrun:σ.run s (.start hu)=((σ.tick.visit s hu (σ.word (9+hu.key))).1,some (σ.tick.visit s hu (σ.word (9+hu.key))).2):=rfl;rw[hrun];clear hR hh0 fh hth hk hcnt HT hrun;generalize σ.tick.visit s hu (σ.word (9+hu.key))=res at*;generalize σ.word (9+hu.key)=hd at*;generalize hu.key=key at*;go_enter Tryz.func241,Tryz.ntmps241;go_wp2_with fail
 go_region_held3 (fun w'=>w'.cell? ⟨bh,0,none⟩=some (.pointer (some ⟨A.be,0,none⟩))∧w'.cell? ⟨bh,2,none⟩=some (zi (key:Int))∧w'.cell? ⟨A.be,2,none⟩=some (.pointer (some ⟨A.ba,0,none⟩)))
  (first|exact⟨h0,h2,e2⟩|assumption|exact HK.out _ (Kp.of (by assumption) (by assumption) (by assumption)))
  (first|(go_at_call 66;refine HL.out.mono ?_;rintro e w1 ⟨rfl,q1,q2⟩;have q4:=HG.out.trans q2;have q3:=Stay.refl A s;clear q2)|(go_at_call 275;refine (HB.out _ (by assumption) (by assumption)).mono ?_;rintro e w2 ⟨A',v,rfl,p1,p2,p3,p4⟩;have p5:=(‹Grow A.L w A.L _›).trans p2))
 go_wp2_with fail;go_ret;exact⟨A',_,rfl,p1,p5,p3,p4⟩
theorem finish_any (hR:Rep A σ w) (s:Nat) (c:Cal) (hc:σ.calls.getD s none=some c) (r:Res) (a:Option Addr) (pn pc:Nat) (vp:Value) (hvp:vp=.slice a pn pc)
 (hp:(vp=A.vpairs s∧r.pairs=c.r.pairs)∨(vp=.slice none 0 0∧r.pairs=[])):
 Calls Tryz.prog 240 #[.pointer (some ⟨A.be,0,none⟩),.pointer (some ⟨A.bc s,0,none⟩),.agg #[zi (r.e:Int),zi (r.value:Int),vp,zi (r.over:Int),zi (r.reason:Int)]] w (Ran A w s (σ.finish s r,none)):=by
 obtain⟨r1,g1,f0⟩:=allocs1 hR #[zi (r.e:Int),zi (r.value:Int),vp,zi (r.over:Int),zi (r.reason:Int)] 168;obtain⟨r2,g2⟩:=r1.resSet hc r vp hp;have hc2:(σ.setC s {c with r:=r}).calls.getD s none=some {c with r:=r}:=by rw[getC_set (lt_of_call hc),if_pos rfl]
 obtain⟨r3,g3⟩:=r2.setCall hc2 {c with r:=r,over:=true} 11 (.bool true) rfl rfl;have c11:=r2.call hc2 11 (v:=.bool c.over) rfl;have z11:=r2.callF hc2 11;have ht:(w.alloc (.cells #[zi (r.e:Int),zi (r.value:Int),vp,zi (r.over:Int),zi (r.reason:Int)] 168)).there (A.bc s) 5 5:=by
  intro j hj;refine⟨?_,r1.callF hc _⟩
  match j,hj with
  |0,_=>rw[r1.call hc 5 rfl];rfl
  |1,_=>rw[r1.call hc 6 rfl];rfl
  |2,_=>rw[r1.call hc 7 rfl];rfl
  |3,_=>rw[r1.call hc 8 rfl];rfl
  |4,_=>rw[r1.call hc 9 rfl];rfl
 have b0:=f0.cell 0 (v:=zi (r.e:Int)) rfl;have b1:=f0.cell 1 (v:=zi (r.value:Int)) rfl;have b2:=f0.cell 2 (v:=vp) rfl;have b3:=f0.cell 3 (v:=zi (r.over:Int)) rfl;have b4:=f0.cell 4 (v:=zi (r.reason:Int)) rfl;have e:σ.finish s r=(σ.setC s {c with r:=r}).setC s {c with r:=r,over:=true}:=by
  unfold St.finish St.setC;rw[call_get hc];simp
 rw[e];have HR:Hid (∀ ws,ws=(w.alloc (.cells #[zi (r.e:Int),zi (r.value:Int),vp,zi (r.over:Int),zi (r.reason:Int)] 168)).setCells (A.bc s) 5 [zi (r.e:Int),zi (r.value:Int),vp,zi (r.over:Int),zi (r.reason:Int)]→ws.cell? ⟨A.bc s,11,none⟩=some (.bool c.over)∧ws.frozen? ⟨A.bc s,11,none⟩=false∧Rep (A.resPairs s vp) ((σ.setC s {c with r:=r}).setC s {c with r:=r,over:=true}) (ws.setCell ⟨A.bc s,11,none⟩ (.bool true))∧Grow A.L w A.L (ws.setCell ⟨A.bc s,11,none⟩ (.bool true))):=by
  rintro ws rfl;exact⟨c11,z11,r3,(g1.trans g2).trans g3⟩
 have HT:=zH ht;clear hR hc r1 g1 f0 r2 g2 hc2 r3 g3 ht e hp c11 z11;subst hvp;go_enter Tryz.func240,Tryz.ntmps240;go_wp2_with (refine wpList_store_mid rfl 168 (.tmp 10) (.tmp 8) rfl (A.bc s) 5 #[zi (r.e:Int),zi (r.value:Int),.slice a pn pc,zi (r.over:Int),zi (r.reason:Int)] rfl rfl HT.out (by kernel_rfl) (by simp[Value.oneCell']) ?_;generalize hws:World.setCells _ _ _ _=ws;obtain⟨k1,k2,k3⟩:=HR.out ws hws.symm;have HK:=zH k3;clear k3 hws);go_ret;exact⟨_,_,rfl,HK.out.1,HK.out.2,⟨rfl,rfl,rfl,rfl,rfl,rfl,rfl,rfl,rfl,rfl,rfl,fun _ _=>rfl,fun k hk=>upF_other _ _ hk⟩,rfl⟩
theorem k_fin (hR:Rep A σ w) (s:Nat) (c:Cal) (hc:σ.calls.getD s none=some c) (r:Res) (b0 b1 b2:Nat) (B0:Box A.L w b0 (.pointer (some ⟨A.be,0,none⟩))) (B1:Box A.L w b1 (.pointer (some ⟨A.bc s,0,none⟩))) (B2:ResBox (kp A σ s) A.L w b2 r):
 Calls Tryz.prog 239 #[.pointer (some ⟨b0,0,none⟩),.pointer (some ⟨b1,0,none⟩),.pointer (some ⟨b2,0,none⟩)] w (Ran A w s (σ.run s (.fin r))):=by
 obtain⟨vp,TT,F2,hp⟩:=B2;have hps:(kp A σ s).ps=c.r.pairs:=by show (σ.c s).r.pairs=_;rw[call_get hc]
 rw[hps] at hp;have hform:∃ a n cap,vp=.slice a n cap:=by
  rcases hp with ⟨h1,_⟩|⟨h1,_⟩
  · have hown:=hR.mem.all (.pairs s)
    rw[mem_pairs hc] at hown;obtain⟨a,cap,h2,_⟩:=Ow.own_form hown.1;exact⟨a,_,cap,h1.trans h2⟩
  · exact⟨none,0,0,h1⟩
 obtain⟨a,pn,pc,hvp⟩:=hform;have HF:=zH (finish_any hR s c hc r a pn pc vp hvp hp);have c0:=B0.cell;have c1:=B1.cell;have d0:=F2.cell 0 (v:=zi (r.e:Int)) rfl;have d1:=F2.cell 1 (v:=zi (r.value:Int)) rfl;have d2:=F2.cell 2 (v:=vp) rfl;have d3:=F2.cell 3 (v:=zi (r.over:Int)) rfl;have d4:=F2.cell 4 (v:=zi (r.reason:Int)) rfl;clear hR hc B0 B1 F2 hp hps;subst hvp;go_enter Tryz.func239,Tryz.ntmps239;go_wp2_with (go_at_call 240;refine HF.out.mono ?_;rintro e w2 ⟨A2,v,rfl,p1,p2,p3,rfl⟩);go_ret;exact⟨A2,_,rfl,p1,p2,p3,rfl⟩
end Go.Proofs.YtiimlopcifljeaaGreatDoor.Em
