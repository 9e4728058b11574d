import Derived.Test.YtiimlopcifljeaaGreatDoorQk3
namespace Go.Proofs.YtiimlopcifljeaaGreatDoor.Em
open Go.ChangeShapes Go.WideShapes Go.ChangeAt Go.RowKit En
set_option linter.unusedVariables false
set_option linter.unusedSimpArgs false
set_option maxRecDepth 100000
set_option maxHeartbeats 1600000
structure VL (σ:St) (l:Nat):Prop where
 lo:1≤l % 131072
 hi:l % 131072≤σ.slots
 u:l<18446744073709551616
theorem slotOf_lt {σ:St} {l:Nat} (h:VL σ l):slotOf l<σ.slots:=by have:=h.lo;have:=h.hi;unfold slotOf;omega
theorem k_get {A:Book} {σ:St} {w:World} (hR:Rep A σ w) (s:Nat) (t:Txn) (ht:σ.txns.getD s none=some t) (key link b0 b1 b2 b3:Nat)
 (B0:Box A.L w b0 (.pointer (some ⟨A.bt s,0,none⟩))) (B1:Box A.L w b1 (zi (key:Int))) (B2:Box A.L w b2 (.pointer (some ⟨A.be,0,none⟩))) (B3:Box A.L w b3 (.pointer (some ⟨A.bc s,0,none⟩)))
 (at_:Nat) (hl:link=0∨VL σ link) (hn:t.reads.length<1000000):
 Calls Tryz.prog 197 #[zu (link:Int),.pointer (some ⟨b0,0,none⟩),.pointer (some ⟨b1,0,none⟩),.pointer (some ⟨b2,0,none⟩),.pointer (some ⟨b3,0,none⟩)] w (Tells A w s (σ.thn s ⟨key,at_,.get⟩ link)):=by
 have c0:=B0.cell;have c1:=B1.cell;have c2:=B2.cell;have c3:=B3.cell
 by_cases h0:link=0
 · have hr:=read_any hR s t ht key link false hn
   have e0:(link !=0)=false:=by simpa using h0
   have e1:σ.thn s ⟨key,at_,.get⟩ link=(σ.read s key link false,.fin {e:=11}):=by simp only[St.thn,e0,if_pos h0]
   rw[e1];have d1:((link:Int)==0)=true:=by simpa using h0
   have d2:((link:Int) !=0)=false:=by simpa using h0
   have d3:((link:Int)=0)=True:=by simpa using h0
   have HR:=zH hr;have HB:=zH (zA B2 B3);clear hR ht hl hn hr e1 e0 h0 B0 B1 B2 B3;go_enter Tryz.func197,Tryz.ntmps197;go_wp2_with (first|(go_at_call 198;refine HR.out.mono ?_;rintro e w1 ⟨rfl,A1,q1,q2,q3,q4,q5⟩;have c2:=(HB.out.1.grow q2).cell;have c3:=(HB.out.2.grow q2).cell;have HE:=zH (ends_at q1 s {e:=11} 11 0 0 0 (.slice none 0 0) rfl (.inr ⟨rfl,rfl⟩));rw[q3.be,q3.bc] at HE;have HQ:=zH (zA q2 q3);clear q1 q2 q3 q4 q5)|(go_at_call 195;refine HE.out.mono ?_;rintro e w2 ⟨A2,v,rfl,p1,p2,p3,p4⟩));go_ret;exact⟨A2,v,rfl,p1,HQ.out.1.trans p2,HQ.out.2.trans p3,p4⟩
 · have hv:=hl.resolve_left h0
   have hr:=read_any hR s t ht key link true hn;have e0:(link !=0)=true:=by simpa using h0
   have e1:σ.thn s ⟨key,at_,.get⟩ link=(σ.read s key link true,.fin {value:=σ.valueOf link}):=by
    simp only[St.thn,e0,if_neg h0];rfl
   rw[e1];have d1:((link:Int)==0)=false:=by simpa using h0
   have d2:((link:Int) !=0)=true:=by simpa using h0
   have d3:((link:Int)=0)=False:=by simpa using h0
   have HR:=zH hr;have HB:=zH (zA B2 (zA B3 hv));have HT:=zH ht;have H0:=zH hR.sl;clear hR ht hl hn hr e1 B0 B1 B2 B3 hv e0 h0;go_enter Tryz.func197,Tryz.ntmps197;go_wp2_with (go_at_call 198;refine HR.out.mono ?_;rintro e w1 ⟨rfl,A1,q1,q2,q3,q4,q5⟩);obtain⟨B2,B3,hv⟩:=HB.out;have c2:=(B2.grow q2).cell;have c3:=(B3.grow q2).cell;have hd:=(data_any q1.drew link hv.lo hv.hi hv.u).mono fun e w' h=>(⟨h.1,h.2.symm⟩:_∧w'=w1.drew)
   have hval:=(q1.drew.val (show slotOf link<(σ.read s key link true).slots from slotOf_lt (σ:=σ) hv)).2;have he:=ends_at q1.drew s {value:=σ.valueOf link} 0 (σ.valueOf link:Int) 0 0 (.slice none 0 0) rfl (.inr ⟨rfl,rfl⟩);rw[q3.be,q3.bc] at he;rw[q3.be] at hd;have HE:=zH he;have HD:=zH hd;have HQ:=zH (zA q2 q3);have e3:(((σ.read s key link true).values.getD (slotOf link) (0,0)).2:Int)=(σ.valueOf link:Int):=rfl;rw[e3] at hval;clear he q1 q2 q3 q4 q5 B2 B3 hd hv e3;generalize A1.bv=bv at*;go_wp2_with fail;refine wp_region_still_tail 9 (by kernel_rfl) (by kernel_rfl) ?_;simp only[zta,ztb,ztc,ztd]
   repeat still_step
   still_call HD.out
   repeat still_step
   refine wpStill_nil ?_;change wpList _ _ _ _ _ w1.drew;have HG:Hid (Grow A1.L w1 A1.L w1.drew):=Grow.drew _ _;generalize w1.drew=w3 at*;go_wp2_with (go_at_call 195;refine HE.out.mono ?_;rintro e w2 ⟨A2,v,rfl,p1,p2,p3,p4⟩);go_ret;exact⟨A2,v,rfl,p1,(HQ.out.1.trans HG.out).trans p2,HQ.out.2.trans p3,p4⟩
variable {A:Book} {σ:St} {w:World}
theorem fresh_0 (hR:Rep A σ w) (s:Nat):
 Calls Tryz.prog 213 #[.pointer (some ⟨A.be,0,none⟩),.pointer (some ⟨A.bt s,0,none⟩),.pointer (some ⟨A.bc s,0,none⟩),zu 0] w (Tells A w s (σ,.fresh 0)):=fresh_any hR s 0
theorem k_change (hR:Rep A σ w) (s:Nat) (t:Txn) (ht:σ.txns.getD s none=some t) (c:Cal) (hc:σ.calls.getD s none=some c) (key link b0 b1 b2 b3:Nat) (hk:c.op.key=key)
 (B0:Box A.L w b0 (.pointer (some ⟨A.bc s,0,none⟩))) (B1:Box A.L w b1 (.pointer (some ⟨A.bt s,0,none⟩))) (B2:Box A.L w b2 (zi (key:Int))) (B3:Box A.L w b3 (.pointer (some ⟨A.be,0,none⟩)))
 (at_:Nat) (hn:t.reads.length<1000000):
 Calls Tryz.prog 212 #[zu (link:Int),.pointer (some ⟨b0,0,none⟩),.pointer (some ⟨b1,0,none⟩),.pointer (some ⟨b2,0,none⟩),.pointer (some ⟨b3,0,none⟩)] w (Tells A w s (σ.thn s ⟨key,at_,.change⟩ link)):=by
 have c0:=B0.cell;have c1:=B1.cell;have c2:=B2.cell;have c3:=B3.cell;have k0:w.cell? ⟨A.bc s,0,none⟩=some (zi (c.op.kind:Int)):=hR.call hc 0 rfl;have hcg:=call_get hc;have hr:=read_any hR s t ht key link false hn;have HR:=zH hr;have HB:=zH (zA B0 (zA B1 (zA B2 B3)));have HX:=zH hR;have e0:σ.thn s ⟨key,at_,.change⟩ link=if link≠0∧c.op.kind=2 then (σ.read s key link false,.fin {e:=12}) else if link=0∧c.op.kind≠2 then (σ.read s key link false,.fin {e:=11}) else if link=0 then (σ,.fresh 0) else (σ,.own link):=by
  simp only[St.thn,hcg,hk]
 rw[e0];clear e0 hR ht hn hr B0 B1 B2 B3 hc hcg hk;generalize c.op.kind=kd at*
 by_cases h0:link=0
 · by_cases h2:kd=2
   · rw[if_neg (by omega),if_neg (by omega),if_pos h0]
     have d1:((link:Int)==0)=true:=by simpa using h0
     have d2:((link:Int) !=0)=false:=by simpa using h0
     have d3:((link:Int)=0)=True:=by simpa using h0
     have f1:((kd:Int)==2)=true:=by simp;omega
     have f2:((kd:Int) !=2)=false:=by simp;omega
     have f3:((kd:Int)=2)=True:=by simp;omega
     clear h0 h2;go_enter Tryz.func212,Tryz.ntmps212;go_wp2_with (go_at_call 213;refine (fresh_0 HX.out s).mono ?_;rintro e w2 ⟨A2,v,rfl,p1,p2,p3,p4⟩);go_ret;exact⟨A2,v,rfl,p1,p2,p3,p4⟩
   · rw[if_neg (by omega),if_pos (by omega)]
     have d1:((link:Int)==0)=true:=by simpa using h0
     have d2:((link:Int) !=0)=false:=by simpa using h0
     have d3:((link:Int)=0)=True:=by simpa using h0
     have f1:((kd:Int)==2)=false:=by simp;omega
     have f2:((kd:Int) !=2)=true:=by simp;omega
     have f3:((kd:Int)=2)=False:=by simp;omega
     clear h0 h2;go_enter Tryz.func212,Tryz.ntmps212;go_wp2_with (first|(go_at_call 198;refine HR.out.mono ?_;rintro e w1 ⟨rfl,A1,q1,q2,q3,q4,q5⟩;have c0:=(HB.out.1.grow q2).cell;have c3:=(HB.out.2.2.2.grow q2).cell;have HE:=zH (ends_at q1 s {e:=11} 11 0 0 0 (.slice none 0 0) rfl (.inr ⟨rfl,rfl⟩));rw[q3.be,q3.bc] at HE;have HQ:=zH (zA q2 q3);clear q1 q2 q3 q4 q5)|(go_at_call 195;refine HE.out.mono ?_;rintro e w2 ⟨A2,v,rfl,p1,p2,p3,p4⟩));go_ret;exact⟨A2,v,rfl,p1,HQ.out.1.trans p2,HQ.out.2.trans p3,p4⟩
 · by_cases h2:kd=2
   · rw[if_pos (by omega)]
     have d1:((link:Int)==0)=false:=by simpa using h0
     have d2:((link:Int) !=0)=true:=by simpa using h0
     have d3:((link:Int)=0)=False:=by simpa using h0
     have f1:((kd:Int)==2)=true:=by simp;omega
     have f2:((kd:Int) !=2)=false:=by simp;omega
     have f3:((kd:Int)=2)=True:=by simp;omega
     clear h0 h2;go_enter Tryz.func212,Tryz.ntmps212;go_wp2_with (first|(go_at_call 198;refine HR.out.mono ?_;rintro e w1 ⟨rfl,A1,q1,q2,q3,q4,q5⟩;have c0:=(HB.out.1.grow q2).cell;have c3:=(HB.out.2.2.2.grow q2).cell;have HE:=zH (ends_at q1 s {e:=12} 12 0 0 0 (.slice none 0 0) rfl (.inr ⟨rfl,rfl⟩));rw[q3.be,q3.bc] at HE;have HQ:=zH (zA q2 q3);clear q1 q2 q3 q4 q5)|(go_at_call 195;refine HE.out.mono ?_;rintro e w2 ⟨A2,v,rfl,p1,p2,p3,p4⟩));go_ret;exact⟨A2,v,rfl,p1,HQ.out.1.trans p2,HQ.out.2.trans p3,p4⟩
   · rw[if_neg (by omega),if_neg (by omega),if_neg h0]
     have d1:((link:Int)==0)=false:=by simpa using h0
     have d2:((link:Int) !=0)=true:=by simpa using h0
     have d3:((link:Int)=0)=False:=by simpa using h0
     have f1:((kd:Int)==2)=false:=by simp;omega
     have f2:((kd:Int) !=2)=true:=by simp;omega
     have f3:((kd:Int)=2)=False:=by simp;omega
     clear h0 h2;go_enter Tryz.func212,Tryz.ntmps212;go_wp2_with (go_at_call 214;refine (own_any HX.out s link).mono ?_;rintro e w2 ⟨A2,v,rfl,p1,p2,p3,p4⟩);go_ret;exact⟨A2,v,rfl,p1,p2,p3,p4⟩
theorem slot_at (l:Nat) (k:Int) (n:Nat) (hk:(n:Int)=k) (h1:1≤l % 131072) (h2:l % 131072≤256) (hl:l<18446744073709551616) (hn:n≤2) (w:World):
 Calls Tryz.prog 79 #[zu (l:Int),zi k] w fun e w'=>e=.returned (zi ((wslot l n:Nat):Int))∧w=w':=by subst hk;exact slot_any l n h1 h2 hl hn w
theorem wslot_lt (hR:Rep A σ w) {l k:Nat} (h1:1≤l % 131072) (h2:l % 131072≤σ.slots) (hk:k≤2):wslot l k<σ.words.length:=by rw[hR.nw];unfold wslot slotOf;omega
theorem k_visit (hR:Rep A σ w) (s:Nat) (t:Txn) (ht:σ.txns.getD s none=some t) (hu:Hunt) (link b0 b1:Nat) (B0:HuntBox (kp A σ s) A.L w b0 hu) (B1:Box A.L w b1 (zu (link:Int)))
 (h1:1≤link % 131072) (h2:link % 131072≤σ.slots) (hl:link<18446744073709551616) (hx:σ.word (wslot link 0)<18446744073709551616) (hc:σ.count<4000000000000000000):
 Calls Tryz.prog 300 #[.pointer (some ⟨b0,0,none⟩),.pointer (some ⟨b1,0,none⟩)] w (Ran A w s (σ.run s (.visit hu link))):=by
 have hsl:=hR.sl;obtain⟨bh,X0,vt,TT,fh,hth⟩:=B0;have c0:=X0.cell;have c1:=B1.cell;have h0:w.cell? ⟨bh,0,none⟩=some (.pointer (some ⟨A.be,0,none⟩)):=fh.cell 0 rfl;have e2:=hR.z2;have HK:Hid (∀ w',Kp A w w'→w'.cell? ⟨b0,0,none⟩=some (.pointer (some ⟨bh,0,none⟩))∧w'.cell? ⟨b1,0,none⟩=some (zu (link:Int))∧w'.cell? ⟨bh,0,none⟩=some (.pointer (some ⟨A.be,0,none⟩))∧w'.cell? ⟨A.be,2,none⟩=some (.pointer (some ⟨A.ba,0,none⟩))):=by
  obtain⟨_,x0⟩:=X0;obtain⟨_,x1⟩:=B1;exact fun w' k=>⟨k.fix _ _ _ x0.1 c0,k.fix _ _ _ x1.1 c1,k.fix _ _ _ fh.1 h0,k.ea⟩
 have HS:=zH (slot_at link 0 0 rfl h1 (by omega) hl (by omega));have HL:=zH (load_any hR.drew (wslot link 0) (wslot_lt hR h1 h2 (by omega)) hc);have HG:=zG A.L w;have hh0:HuntAt (kp A σ s) A.L w bh hu:=⟨vt,TT,fh,hth⟩
 have HB:Hid (∀ w1,Rep A σ.tick w1→Grow A.L w A.L w1→Calls Tryz.prog 301 #[.pointer (some ⟨bh,0,none⟩),zu (link:Int),zu (σ.word (wslot link 0):Int)] w1 (Tells A w1 s (σ.tick,σ.beginK s hu link (σ.word (wslot link 0))))):=
  fun w1 r g=>begin_any r s t ht bh hu (hh0.grow g) link _ hx
 clear hR ht X0 B1 fh hth h1 h2 hl hx hc hsl hh0;go_enter Tryz.func300,Tryz.ntmps300;go_wp2_with fail
 go_region_held3 (fun w'=>w'.cell? ⟨b0,0,none⟩=some (.pointer (some ⟨bh,0,none⟩))∧w'.cell? ⟨b1,0,none⟩=some (zu (link:Int))∧w'.cell? ⟨bh,0,none⟩=some (.pointer (some ⟨A.be,0,none⟩))∧w'.cell? ⟨A.be,2,none⟩=some (.pointer (some ⟨A.ba,0,none⟩)))
  (first|exact⟨c0,c1,h0,e2⟩|assumption|exact HK.out _ (Kp.of (by assumption) (by assumption) (by assumption)))
  (first|(go_at_call 79;refine (HS.out _).mono ?_;rintro e w' ⟨rfl,rfl⟩)|(go_at_call 66;refine HL.out.mono ?_;rintro e w1 ⟨rfl,q1,q2⟩;have q4:=HG.out.trans q2;have q3:=Stay.refl A s;clear q2)|(go_at_call 301;refine (HB.out _ (by assumption) (by assumption)).mono ?_;rintro e w2 ⟨A',v,rfl,p1,p2,p3,p4⟩;have p5:=(‹Grow A.L w A.L _›).trans p2))
 go_wp2_with fail;go_ret;exact⟨A',_,rfl,p1,p5,p3,p4⟩
theorem flip {P:Program} {f:FuncId} {args:Array Value} {w:World} {v:Value} (h:Calls P f args w fun e w'=>e=.returned v∧w=w'):Calls P f args w fun e w'=>e=.returned v∧w'=w:=h.mono fun _ _ h=>⟨h.1,h.2.symm⟩
theorem forever_still (w:World):Calls Tryz.prog 209 #[] w fun e w'=>e=.returned (zu ((ever:Nat):Int))∧w'=w:=flip (Word.forever_any w)
theorem k_slotB (hR:Rep A σ w) (s:Nat) (t:Txn) (ht:σ.txns.getD s none=some t) (b0 b1 b2 b3 b4 b5:Nat) (x:Bool) (link head:Nat)
 (B0:Box A.L w b0 (.pointer (some ⟨A.be,0,none⟩))) (B1:Box A.L w b1 (zu (link:Int))) (B2:Box A.L w b2 (.pointer (some ⟨A.bt s,0,none⟩))) (B3:Box A.L w b3 ((kp A σ s).xo x)) (B4:Box A.L w b4 (.pointer (some ⟨A.bc s,0,none⟩))) (B5:HeadBox A.L w b5 x head)
 (hc:σ.count<4000000000000000000) (hv:VL σ link) (h1:1≤t.id) (h2:t.id≤65535):
 Calls Tryz.prog 279 #[.pointer (some ⟨b0,0,none⟩),.pointer (some ⟨b1,0,none⟩),.pointer (some ⟨b2,0,none⟩),.pointer (some ⟨b3,0,none⟩),.pointer (some ⟨b4,0,none⟩),.pointer (some ⟨b5,0,none⟩)] w (Ran A w s (σ.run s (.slotB x link head))):=by
 have c0:=B0.cell;have c1:=B1.cell;have c2:=B2.cell;have c3:=B3.cell;have c4:=B4.cell;have e2:=hR.z2;have hsl:=hR.sl;have G0:Grow A.L w A.L w.drew:=Grow.drew _ _;have HS:=zH (flip (slot_at link 0 0 rfl hv.lo (by have:=hv.hi;omega) hv.u (by omega) w.drew));have HM:=zH (flip (mine_any hR.drew s t ht h1 h2));have HL:=zH (store_any hR.drew (wslot link 0) (mine t) (wslot_lt hR hv.lo hv.hi (by omega)) hc);have hrun:σ.run s (.slotB x link head)=(σ.put (wslot link 0) (mine t),some (.slotE x link head)):=by simp only[St.run,txn_get ht]
 rw[hrun];clear hrun ht hv h1 h2;have HG:=zH G0;have HB:=zH ((zA B0 (zA B1 (zA B2 (zA B3 (zA B4 B5))))));clear hR hsl hc G0 B0 B1 B2 B3 B4 B5;go_enter Tryz.func279,Tryz.ntmps279;go_wp2_with fail;refine wp_region_still_tail 8 (by kernel_rfl) (by kernel_rfl) ?_;simp only[zta,ztb,ztc,ztd]
 repeat still_step
 still_call HS.out
 repeat still_step
 still_call HM.out
 repeat still_step
 refine wpStill_nil ?_;change wpList _ _ _ _ _ w.drew;generalize w.drew=wd at*;go_wp2_with (go_at_call 71;refine HL.out.mono ?_;rintro e w1 ⟨rfl,q1,q2⟩);go_ret;obtain⟨B0,B1,B2,B3,B4,B5⟩:=HB.out;exact⟨A,_,rfl,q1,HG.out.trans q2,Stay.refl _ _,_,_,_,_,_,_,rfl,B0.grow (HG.out.trans q2),B1.grow (HG.out.trans q2),B3.grow (HG.out.trans q2),B2.grow (HG.out.trans q2),B4.grow (HG.out.trans q2),B5.grow (HG.out.trans q2)⟩
theorem k_push (hR:Rep A σ w) (s:Nat) (t:Txn) (ht:σ.txns.getD s none=some t) (b0 b1 b2 b3 b4:Nat) (link head:Nat)
 (B0:Box A.L w b0 (.pointer (some ⟨A.be,0,none⟩))) (B1:Box A.L w b1 (zu (link:Int))) (B2:Box A.L w b2 (zu (head:Int))) (B3:Box A.L w b3 (.pointer (some ⟨A.bc s,0,none⟩))) (B4:Box A.L w b4 (.pointer (some ⟨A.bt s,0,none⟩)))
 (hc:σ.count<4000000000000000000) (hv:VL σ link):
 Calls Tryz.prog 304 #[.pointer (some ⟨b0,0,none⟩),.pointer (some ⟨b1,0,none⟩),.pointer (some ⟨b2,0,none⟩),.pointer (some ⟨b3,0,none⟩),.pointer (some ⟨b4,0,none⟩)] w (Ran A w s (σ.run s (.push link head))):=by
 have c0:=B0.cell;have c1:=B1.cell;have c2:=B2.cell;have c3:=B3.cell;have c4:=B4.cell;have e2:=hR.z2;have hsl:=hR.sl;have G0:Grow A.L w A.L w.drew:=Grow.drew _ _;have HS:=zH (flip (slot_at link 2 2 rfl hv.lo (by have:=hv.hi;omega) hv.u (by omega) w.drew));have HL:=zH (store_any hR.drew (wslot link 2) head (wslot_lt hR hv.lo hv.hi (by omega)) hc);have hrun:σ.run s (.push link head)=(σ.put (wslot link 2) head,some (.pushC link head)):=rfl;rw[hrun];clear hrun ht hv;have HG:=zH G0;have HB:=zH ((zA B0 (zA B1 (zA B2 (zA B3 B4)))));clear hR hsl hc G0 B0 B1 B2 B3 B4;go_enter Tryz.func304,Tryz.ntmps304;go_wp2_with fail;refine wp_region_still_tail 7 (by kernel_rfl) (by kernel_rfl) ?_;simp only[zta,ztb,ztc,ztd]
 repeat still_step
 still_call HS.out
 repeat still_step
 refine wpStill_nil ?_;change wpList _ _ _ _ _ w.drew;generalize w.drew=wd at*;go_wp2_with (go_at_call 71;refine HL.out.mono ?_;rintro e w1 ⟨rfl,q1,q2⟩);go_ret;obtain⟨B0,B1,B2,B3,B4⟩:=HB.out;exact⟨A,_,rfl,q1,HG.out.trans q2,Stay.refl _ _,_,_,_,_,_,rfl,B0.grow (HG.out.trans q2),B3.grow (HG.out.trans q2),B2.grow (HG.out.trans q2),B1.grow (HG.out.trans q2),B4.grow (HG.out.trans q2)⟩
theorem k_overN (hR:Rep A σ w) (s:Nat) (t:Txn) (ht:σ.txns.getD s none=some t) (b0 b1 b2 b3 b4 b5:Nat) (link head:Nat)
 (B0:Box A.L w b0 (.pointer (some ⟨A.be,0,none⟩))) (B1:Box A.L w b1 (zu (link:Int))) (B2:Box A.L w b2 (zu (head:Int))) (B3:Box A.L w b3 (.pointer (some ⟨A.bc s,0,none⟩))) (B4:Box A.L w b4 (.pointer (some ⟨A.bt s,0,none⟩))) (B5:Box A.L w b5 ((kp A σ s).xo true))
 (hc:σ.count<4000000000000000000) (hv:VL σ link):
 Calls Tryz.prog 307 #[.pointer (some ⟨b0,0,none⟩),.pointer (some ⟨b1,0,none⟩),.pointer (some ⟨b2,0,none⟩),.pointer (some ⟨b3,0,none⟩),.pointer (some ⟨b4,0,none⟩),.pointer (some ⟨b5,0,none⟩)] w (Ran A w s (σ.run s (.overN link head))):=by
 have c0:=B0.cell;have c1:=B1.cell;have c2:=B2.cell;have c3:=B3.cell;have c4:=B4.cell;have c5:=B5.cell;have e2:=hR.z2;have hsl:=hR.sl;have G0:Grow A.L w A.L w.drew:=Grow.drew _ _;have HS:=zH (flip (slot_at link 2 2 rfl hv.lo (by have:=hv.hi;omega) hv.u (by omega) w.drew));have HL:=zH (store_any hR.drew (wslot link 2) head (wslot_lt hR hv.lo hv.hi (by omega)) hc);have hrun:σ.run s (.overN link head)=(σ.put (wslot link 2) head,some (.overC link head)):=rfl;rw[hrun];clear hrun ht hv;have HG:=zH G0;have HB:=zH ((zA B0 (zA B1 (zA B2 (zA B3 (zA B4 B5))))));clear hR hsl hc G0 B0 B1 B2 B3 B4 B5;go_enter Tryz.func307,Tryz.ntmps307;go_wp2_with fail;refine wp_region_still_tail 7 (by kernel_rfl) (by kernel_rfl) ?_;simp only[zta,ztb,ztc,ztd]
 repeat still_step
 still_call HS.out
 repeat still_step
 refine wpStill_nil ?_;change wpList _ _ _ _ _ w.drew;generalize w.drew=wd at*;go_wp2_with (go_at_call 71;refine HL.out.mono ?_;rintro e w1 ⟨rfl,q1,q2⟩);go_ret;obtain⟨B0,B1,B2,B3,B4,B5⟩:=HB.out;exact⟨A,_,rfl,q1,HG.out.trans q2,Stay.refl _ _,_,_,_,_,_,_,rfl,B0.grow (HG.out.trans q2),B3.grow (HG.out.trans q2),B2.grow (HG.out.trans q2),B1.grow (HG.out.trans q2),B4.grow (HG.out.trans q2),B5.grow (HG.out.trans q2)⟩
end Go.Proofs.YtiimlopcifljeaaGreatDoor.Em
