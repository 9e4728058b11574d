import Derived.Test.YtbefcdjcefmicaaGreatKq11
import Derived.Test.YtbefcdjcefmicaaGreatKq9
namespace Go.Proofs.YtbefcdjcefmicaaGreat.Em
open Go.ChangeShapes Go.WideShapes Go.ChangeAt Go.RowKit En
set_option linter.unusedVariables false
set_option linter.unusedSimpArgs false
set_option maxRecDepth 100000
set_option maxHeartbeats 1600000
theorem fresh_0 {A:Book} {σ:St} {w:World} (hR:Rep A σ w) (s:Nat):
 Calls Tryz.prog 125 #[.pointer (some ⟨A.be,0,none⟩),.pointer (some ⟨A.bt s,0,none⟩),.pointer (some ⟨A.bc s,0,none⟩),zu 0] w (Tells A w s (σ,.fresh 0)):=fresh_any hR s 0
theorem k_change {A:Book} {σ:St} {w:World} (hR:Rep A σ w) (s:Nat) (t:Txn) (ht:σ.txns.getD s none=some t) (c:Cal) (hc:σ.calls.getD s none=some c) (key link b0 b1 b2 b3:Nat) (hk:c.op.key=key)
 (B0:Box A.L w b0 (.pointer (some ⟨A.bc s,0,none⟩))) (B1:Box A.L w b1 (.pointer (some ⟨A.bt s,0,none⟩))) (B2:Box A.L w b2 (zi (key:Int))) (B3:Box A.L w b3 (.pointer (some ⟨A.be,0,none⟩)))
 (at_:Nat) (hn:t.reads.length<1000000):
 Calls Tryz.prog 124 #[zu (link:Int),.pointer (some ⟨b0,0,none⟩),.pointer (some ⟨b1,0,none⟩),.pointer (some ⟨b2,0,none⟩),.pointer (some ⟨b3,0,none⟩)] w (Tells A w s (σ.thn s ⟨key,at_,.change⟩ link)):=by
 have c0:=B0.cell;have c1:=B1.cell;have c2:=B2.cell;have c3:=B3.cell;have k0:w.cell? ⟨A.bc s,0,none⟩=some (zi (c.op.kind:Int)):=hR.call hc 0 rfl;have hcg:=call_get hc;have hr:=read_any hR s t ht key link false hn;have HR:=zH hr;have HB:=zH (zA B0 (zA B1 (zA B2 B3)));have HX:=zH hR;have e0:σ.thn s ⟨key,at_,.change⟩ link=if link≠0∧c.op.kind=2 then (σ.read s key link false,.fin {e:=12}) else if link=0∧c.op.kind≠2 then (σ.read s key link false,.fin {e:=11}) else if link=0 then (σ,.fresh 0) else (σ,.own link):=by
  simp only[St.thn,hcg,hk]
 rw[e0];clear e0 hR ht hn hr B0 B1 B2 B3 hc hcg hk;generalize c.op.kind=kd at*
 by_cases h0:link=0
 · by_cases h2:kd=2
   · rw[if_neg (by omega),if_neg (by omega),if_pos h0]
     have d1:((link:Int)==0)=true:=by simpa using h0
     have d2:((link:Int) !=0)=false:=by simpa using h0
     have d3:((link:Int)=0)=True:=by simpa using h0
     have f1:((kd:Int)==2)=true:=by simp;omega
     have f2:((kd:Int) !=2)=false:=by simp;omega
     have f3:((kd:Int)=2)=True:=by simp;omega
     clear h0 h2;go_enter Tryz.func124,Tryz.ntmps124;go_wp2_with (go_at_call 125;refine (fresh_0 HX.out s).mono ?_;rintro e w2 ⟨A2,v,rfl,p1,p2,p3,p4⟩);go_ret;exact⟨A2,v,rfl,p1,p2,p3,p4⟩
   · rw[if_neg (by omega),if_pos (by omega)]
     have d1:((link:Int)==0)=true:=by simpa using h0
     have d2:((link:Int) !=0)=false:=by simpa using h0
     have d3:((link:Int)=0)=True:=by simpa using h0
     have f1:((kd:Int)==2)=false:=by simp;omega
     have f2:((kd:Int) !=2)=true:=by simp;omega
     have f3:((kd:Int)=2)=False:=by simp;omega
     clear h0 h2;go_enter Tryz.func124,Tryz.ntmps124;go_wp2_with (first|(go_at_call 110;refine HR.out.mono ?_;rintro e w1 ⟨rfl,A1,q1,q2,q3,q4,q5⟩;have c0:=(HB.out.1.grow q2).cell;have c3:=(HB.out.2.2.2.grow q2).cell;have HE:=zH (ends_at q1 s {e:=11} 11 0 0 0 (.slice none 0 0) rfl (.inr ⟨rfl,rfl⟩));rw[q3.be,q3.bc] at HE;have HQ:=zH (zA q2 q3);clear q1 q2 q3 q4 q5)|(go_at_call 107;refine HE.out.mono ?_;rintro e w2 ⟨A2,v,rfl,p1,p2,p3,p4⟩));go_ret;exact⟨A2,v,rfl,p1,HQ.out.1.trans p2,HQ.out.2.trans p3,p4⟩
 · by_cases h2:kd=2
   · rw[if_pos (by omega)]
     have d1:((link:Int)==0)=false:=by simpa using h0
     have d2:((link:Int) !=0)=true:=by simpa using h0
     have d3:((link:Int)=0)=False:=by simpa using h0
     have f1:((kd:Int)==2)=true:=by simp;omega
     have f2:((kd:Int) !=2)=false:=by simp;omega
     have f3:((kd:Int)=2)=True:=by simp;omega
     clear h0 h2;go_enter Tryz.func124,Tryz.ntmps124;go_wp2_with (first|(go_at_call 110;refine HR.out.mono ?_;rintro e w1 ⟨rfl,A1,q1,q2,q3,q4,q5⟩;have c0:=(HB.out.1.grow q2).cell;have c3:=(HB.out.2.2.2.grow q2).cell;have HE:=zH (ends_at q1 s {e:=12} 12 0 0 0 (.slice none 0 0) rfl (.inr ⟨rfl,rfl⟩));rw[q3.be,q3.bc] at HE;have HQ:=zH (zA q2 q3);clear q1 q2 q3 q4 q5)|(go_at_call 107;refine HE.out.mono ?_;rintro e w2 ⟨A2,v,rfl,p1,p2,p3,p4⟩));go_ret;exact⟨A2,v,rfl,p1,HQ.out.1.trans p2,HQ.out.2.trans p3,p4⟩
   · rw[if_neg (by omega),if_neg (by omega),if_neg h0]
     have d1:((link:Int)==0)=false:=by simpa using h0
     have d2:((link:Int) !=0)=true:=by simpa using h0
     have d3:((link:Int)=0)=False:=by simpa using h0
     have f1:((kd:Int)==2)=false:=by simp;omega
     have f2:((kd:Int) !=2)=true:=by simp;omega
     have f3:((kd:Int)=2)=False:=by simp;omega
     clear h0 h2;go_enter Tryz.func124,Tryz.ntmps124;go_wp2_with (go_at_call 126;refine (own_any HX.out s link).mono ?_;rintro e w2 ⟨A2,v,rfl,p1,p2,p3,p4⟩);go_ret;exact⟨A2,v,rfl,p1,p2,p3,p4⟩
theorem flip {P:Program} {f:FuncId} {args:Array Value} {w:World} {v:Value} (h:Calls P f args w fun e w'=>e=.returned v∧w=w'):Calls P f args w fun e w'=>e=.returned v∧w'=w:=h.mono fun _ _ h=>⟨h.1,h.2.symm⟩
theorem forever_still (w:World):Calls Tryz.prog 121 #[] w fun e w'=>e=.returned (zu ((ever:Nat):Int))∧w'=w:=flip (Word.forever_any w)
theorem k_slotB {A:Book} {σ:St} {w:World} (hR:Rep A σ w) (s:Nat) (t:Txn) (ht:σ.txns.getD s none=some t) (b0 b1 b2 b3 b4 b5:Nat) (x:Bool) (link head:Nat)
 (B0:Box A.L w b0 (.pointer (some ⟨A.be,0,none⟩))) (B1:Box A.L w b1 (zu (link:Int))) (B2:Box A.L w b2 (.pointer (some ⟨A.bt s,0,none⟩))) (B3:Box A.L w b3 ((kp A σ s).xo x)) (B4:Box A.L w b4 (.pointer (some ⟨A.bc s,0,none⟩))) (B5:HeadBox A.L w b5 x head)
 (hc:σ.count<4000000000000000000) (hv:VL σ link) (h1:1≤t.id) (h2:t.id≤65535):
 Calls Tryz.prog 167 #[.pointer (some ⟨b0,0,none⟩),.pointer (some ⟨b1,0,none⟩),.pointer (some ⟨b2,0,none⟩),.pointer (some ⟨b3,0,none⟩),.pointer (some ⟨b4,0,none⟩),.pointer (some ⟨b5,0,none⟩)] w (Ran A w s (σ.run s (.slotB x link head))):=by
 have c0:=B0.cell;have c1:=B1.cell;have c2:=B2.cell;have c3:=B3.cell;have c4:=B4.cell;have e2:w.cell? ⟨A.be,2,none⟩=some (.pointer (some ⟨A.ba,0,none⟩)):=hR.eng 2 rfl;have hsl:=hR.sl;have G0:Grow A.L w A.L w.drew:=Grow.drew _ _;have HS:=zH (flip (slot_at link 0 0 rfl hv.lo (by have:=hv.hi;omega) hv.u (by omega) w.drew));have HM:=zH (flip (mine_any hR.drew s t ht h1 h2));have HL:=zH (store_any hR.drew (wslot link 0) (mine t) (wslot_lt hR hv.lo hv.hi (by omega)) hc);have hrun:σ.run s (.slotB x link head)=(σ.put (wslot link 0) (mine t),some (.slotE x link head)):=by simp only[St.run,txn_get ht]
 rw[hrun];clear hrun ht hv h1 h2;have HG:=zH G0;have HB:=zH ((zA B0 (zA B1 (zA B2 (zA B3 (zA B4 B5))))));clear hR hsl hc G0 B0 B1 B2 B3 B4 B5;go_enter Tryz.func167,Tryz.ntmps167;go_wp2_with fail;refine wp_region_still_tail 8 (by kernel_rfl) (by kernel_rfl) ?_;simp only[List.take_succ_cons,List.take_zero,List.drop_succ_cons,List.drop_zero]
 repeat still_step
 still_call HS.out
 repeat still_step
 still_call HM.out
 repeat still_step
 refine wpStill_nil ?_;change wpList _ _ _ _ _ w.drew;generalize w.drew=wd at*;go_wp2_with (go_at_call 77;refine HL.out.mono ?_;rintro e w1 ⟨rfl,q1,q2⟩);go_ret;obtain⟨B0,B1,B2,B3,B4,B5⟩:=HB.out;exact⟨A,_,rfl,q1,HG.out.trans q2,Stay.refl _ _,_,_,_,_,_,_,rfl,B0.grow (HG.out.trans q2),B1.grow (HG.out.trans q2),B3.grow (HG.out.trans q2),B2.grow (HG.out.trans q2),B4.grow (HG.out.trans q2),B5.grow (HG.out.trans q2)⟩
theorem k_push {A:Book} {σ:St} {w:World} (hR:Rep A σ w) (s:Nat) (t:Txn) (ht:σ.txns.getD s none=some t) (b0 b1 b2 b3 b4:Nat) (link head:Nat)
 (B0:Box A.L w b0 (.pointer (some ⟨A.be,0,none⟩))) (B1:Box A.L w b1 (zu (link:Int))) (B2:Box A.L w b2 (zu (head:Int))) (B3:Box A.L w b3 (.pointer (some ⟨A.bc s,0,none⟩))) (B4:Box A.L w b4 (.pointer (some ⟨A.bt s,0,none⟩)))
 (hc:σ.count<4000000000000000000) (hv:VL σ link):
 Calls Tryz.prog 188 #[.pointer (some ⟨b0,0,none⟩),.pointer (some ⟨b1,0,none⟩),.pointer (some ⟨b2,0,none⟩),.pointer (some ⟨b3,0,none⟩),.pointer (some ⟨b4,0,none⟩)] w (Ran A w s (σ.run s (.push link head))):=by
 have c0:=B0.cell;have c1:=B1.cell;have c2:=B2.cell;have c3:=B3.cell;have c4:=B4.cell;have e2:w.cell? ⟨A.be,2,none⟩=some (.pointer (some ⟨A.ba,0,none⟩)):=hR.eng 2 rfl;have hsl:=hR.sl;have G0:Grow A.L w A.L w.drew:=Grow.drew _ _;have HS:=zH (flip (slot_at link 2 2 rfl hv.lo (by have:=hv.hi;omega) hv.u (by omega) w.drew));have HL:=zH (store_any hR.drew (wslot link 2) head (wslot_lt hR hv.lo hv.hi (by omega)) hc);have hrun:σ.run s (.push link head)=(σ.put (wslot link 2) head,some (.pushC link head)):=rfl;rw[hrun];clear hrun ht hv;have HG:=zH G0;have HB:=zH ((zA B0 (zA B1 (zA B2 (zA B3 B4)))));clear hR hsl hc G0 B0 B1 B2 B3 B4;go_enter Tryz.func188,Tryz.ntmps188;go_wp2_with fail;refine wp_region_still_tail 7 (by kernel_rfl) (by kernel_rfl) ?_;simp only[List.take_succ_cons,List.take_zero,List.drop_succ_cons,List.drop_zero]
 repeat still_step
 still_call HS.out
 repeat still_step
 refine wpStill_nil ?_;change wpList _ _ _ _ _ w.drew;generalize w.drew=wd at*;go_wp2_with (go_at_call 77;refine HL.out.mono ?_;rintro e w1 ⟨rfl,q1,q2⟩);go_ret;obtain⟨B0,B1,B2,B3,B4⟩:=HB.out;exact⟨A,_,rfl,q1,HG.out.trans q2,Stay.refl _ _,_,_,_,_,_,rfl,B0.grow (HG.out.trans q2),B3.grow (HG.out.trans q2),B2.grow (HG.out.trans q2),B1.grow (HG.out.trans q2),B4.grow (HG.out.trans q2)⟩
theorem k_overN {A:Book} {σ:St} {w:World} (hR:Rep A σ w) (s:Nat) (t:Txn) (ht:σ.txns.getD s none=some t) (b0 b1 b2 b3 b4 b5:Nat) (link head:Nat)
 (B0:Box A.L w b0 (.pointer (some ⟨A.be,0,none⟩))) (B1:Box A.L w b1 (zu (link:Int))) (B2:Box A.L w b2 (zu (head:Int))) (B3:Box A.L w b3 (.pointer (some ⟨A.bc s,0,none⟩))) (B4:Box A.L w b4 (.pointer (some ⟨A.bt s,0,none⟩))) (B5:Box A.L w b5 ((kp A σ s).xo true))
 (hc:σ.count<4000000000000000000) (hv:VL σ link):
 Calls Tryz.prog 191 #[.pointer (some ⟨b0,0,none⟩),.pointer (some ⟨b1,0,none⟩),.pointer (some ⟨b2,0,none⟩),.pointer (some ⟨b3,0,none⟩),.pointer (some ⟨b4,0,none⟩),.pointer (some ⟨b5,0,none⟩)] w (Ran A w s (σ.run s (.overN link head))):=by
 have c0:=B0.cell;have c1:=B1.cell;have c2:=B2.cell;have c3:=B3.cell;have c4:=B4.cell;have c5:=B5.cell;have e2:w.cell? ⟨A.be,2,none⟩=some (.pointer (some ⟨A.ba,0,none⟩)):=hR.eng 2 rfl;have hsl:=hR.sl;have G0:Grow A.L w A.L w.drew:=Grow.drew _ _;have HS:=zH (flip (slot_at link 2 2 rfl hv.lo (by have:=hv.hi;omega) hv.u (by omega) w.drew));have HL:=zH (store_any hR.drew (wslot link 2) head (wslot_lt hR hv.lo hv.hi (by omega)) hc);have hrun:σ.run s (.overN link head)=(σ.put (wslot link 2) head,some (.overC link head)):=rfl;rw[hrun];clear hrun ht hv;have HG:=zH G0;have HB:=zH ((zA B0 (zA B1 (zA B2 (zA B3 (zA B4 B5))))));clear hR hsl hc G0 B0 B1 B2 B3 B4 B5;go_enter Tryz.func191,Tryz.ntmps191;go_wp2_with fail;refine wp_region_still_tail 7 (by kernel_rfl) (by kernel_rfl) ?_;simp only[List.take_succ_cons,List.take_zero,List.drop_succ_cons,List.drop_zero]
 repeat still_step
 still_call HS.out
 repeat still_step
 refine wpStill_nil ?_;change wpList _ _ _ _ _ w.drew;generalize w.drew=wd at*;go_wp2_with (go_at_call 77;refine HL.out.mono ?_;rintro e w1 ⟨rfl,q1,q2⟩);go_ret;obtain⟨B0,B1,B2,B3,B4,B5⟩:=HB.out;exact⟨A,_,rfl,q1,HG.out.trans q2,Stay.refl _ _,_,_,_,_,_,_,rfl,B0.grow (HG.out.trans q2),B3.grow (HG.out.trans q2),B2.grow (HG.out.trans q2),B1.grow (HG.out.trans q2),B4.grow (HG.out.trans q2),B5.grow (HG.out.trans q2)⟩
end Go.Proofs.YtbefcdjcefmicaaGreat.Em
