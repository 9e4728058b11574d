import Derived.Test.YtbefcdjcefmicaaGreatKq8
namespace Go.Proofs.YtbefcdjcefmicaaGreat.Em
open Go.ChangeShapes Go.WideShapes Go.ChangeAt Go.RowKit En
set_option linter.unusedVariables false
set_option linter.unusedSimpArgs false
set_option maxRecDepth 100000
set_option maxHeartbeats 1600000
structure VL (σ:St) (l:Nat):Prop where
 lo:1≤l % 131072
 hi:l % 131072≤σ.slots
 u:l<18446744073709551616
theorem slotOf_lt {σ:St} {l:Nat} (h:VL σ l):slotOf l<σ.slots:=by have:=h.lo;have:=h.hi;unfold slotOf;omega
theorem k_get {A:Book} {σ:St} {w:World} (hR:Rep A σ w) (s:Nat) (t:Txn) (ht:σ.txns.getD s none=some t) (key link b0 b1 b2 b3:Nat)
 (B0:Box A.L w b0 (.pointer (some ⟨A.bt s,0,none⟩))) (B1:Box A.L w b1 (zi (key:Int))) (B2:Box A.L w b2 (.pointer (some ⟨A.be,0,none⟩))) (B3:Box A.L w b3 (.pointer (some ⟨A.bc s,0,none⟩)))
 (at_:Nat) (hl:link=0∨VL σ link) (hn:t.reads.length<1000000):
 Calls Tryz.prog 109 #[zu (link:Int),.pointer (some ⟨b0,0,none⟩),.pointer (some ⟨b1,0,none⟩),.pointer (some ⟨b2,0,none⟩),.pointer (some ⟨b3,0,none⟩)] w (Tells A w s (σ.thn s ⟨key,at_,.get⟩ link)):=by
 have c0:=B0.cell;have c1:=B1.cell;have c2:=B2.cell;have c3:=B3.cell
 by_cases h0:link=0
 · have hr:=read_any hR s t ht key link false hn
   have e0:(link !=0)=false:=by simpa using h0
   have e1:σ.thn s ⟨key,at_,.get⟩ link=(σ.read s key link false,.fin {e:=11}):=by simp only[St.thn,e0,if_pos h0]
   rw[e1];have d1:((link:Int)==0)=true:=by simpa using h0
   have d2:((link:Int) !=0)=false:=by simpa using h0
   have d3:((link:Int)=0)=True:=by simpa using h0
   have HR:=zH hr;have HB:=zH (zA B2 B3);clear hR ht hl hn hr e1 e0 h0 B0 B1 B2 B3;go_enter Tryz.func109,Tryz.ntmps109;go_wp2_with (first|(go_at_call 110;refine HR.out.mono ?_;rintro e w1 ⟨rfl,A1,q1,q2,q3,q4,q5⟩;have c2:=(HB.out.1.grow q2).cell;have c3:=(HB.out.2.grow q2).cell;have HE:=zH (ends_at q1 s {e:=11} 11 0 0 0 (.slice none 0 0) rfl (.inr ⟨rfl,rfl⟩));rw[q3.be,q3.bc] at HE;have HQ:=zH (zA q2 q3);clear q1 q2 q3 q4 q5)|(go_at_call 107;refine HE.out.mono ?_;rintro e w2 ⟨A2,v,rfl,p1,p2,p3,p4⟩));go_ret;exact⟨A2,v,rfl,p1,HQ.out.1.trans p2,HQ.out.2.trans p3,p4⟩
 · have hv:=hl.resolve_left h0
   have hr:=read_any hR s t ht key link true hn;have e0:(link !=0)=true:=by simpa using h0
   have e1:σ.thn s ⟨key,at_,.get⟩ link=(σ.read s key link true,.fin {value:=σ.valueOf link}):=by
    simp only[St.thn,e0,if_neg h0];rfl
   rw[e1];have d1:((link:Int)==0)=false:=by simpa using h0
   have d2:((link:Int) !=0)=true:=by simpa using h0
   have d3:((link:Int)=0)=False:=by simpa using h0
   have HR:=zH hr;have HB:=zH (zA B2 (zA B3 hv));have HT:=zH ht;have H0:=zH hR.sl;clear hR ht hl hn hr e1 B0 B1 B2 B3 hv e0 h0;go_enter Tryz.func109,Tryz.ntmps109;go_wp2_with (go_at_call 110;refine HR.out.mono ?_;rintro e w1 ⟨rfl,A1,q1,q2,q3,q4,q5⟩);obtain⟨B2,B3,hv⟩:=HB.out;have c2:=(B2.grow q2).cell;have c3:=(B3.grow q2).cell;have hd:=(data_any q1.drew link hv.lo hv.hi hv.u).mono fun e w' h=>(⟨h.1,h.2.symm⟩:_∧w'=w1.drew)
   have hval:=(q1.drew.val (show slotOf link<(σ.read s key link true).slots from slotOf_lt (σ:=σ) hv)).2;have he:=ends_at q1.drew s {value:=σ.valueOf link} 0 (σ.valueOf link:Int) 0 0 (.slice none 0 0) rfl (.inr ⟨rfl,rfl⟩);rw[q3.be,q3.bc] at he;rw[q3.be] at hd;have HE:=zH he;have HD:=zH hd;have HQ:=zH (zA q2 q3);have e3:(((σ.read s key link true).values.getD (slotOf link) (0,0)).2:Int)=(σ.valueOf link:Int):=rfl;rw[e3] at hval;clear he q1 q2 q3 q4 q5 B2 B3 hd hv e3;generalize A1.bv=bv at*;go_wp2_with fail;refine wp_region_still_tail 9 (by kernel_rfl) (by kernel_rfl) ?_;simp only[List.take_succ_cons,List.take_zero,List.drop_succ_cons,List.drop_zero]
   repeat still_step
   still_call HD.out
   repeat still_step
   refine wpStill_nil ?_;change wpList _ _ _ _ _ w1.drew;have HG:Hid (Grow A1.L w1 A1.L w1.drew):=Grow.drew _ _;generalize w1.drew=w3 at*;go_wp2_with (go_at_call 107;refine HE.out.mono ?_;rintro e w2 ⟨A2,v,rfl,p1,p2,p3,p4⟩);go_ret;exact⟨A2,v,rfl,p1,(HQ.out.1.trans HG.out).trans p2,HQ.out.2.trans p3,p4⟩
theorem slot_at (l:Nat) (k:Int) (n:Nat) (hk:(n:Int)=k) (h1:1≤l % 131072) (h2:l % 131072≤256) (hl:l<18446744073709551616) (hn:n≤2) (w:World):
 Calls Tryz.prog 62 #[zu (l:Int),zi k] w fun e w'=>e=.returned (zi ((wslot l n:Nat):Int))∧w=w':=by subst hk;exact slot_any l n h1 h2 hl hn w
theorem wslot_lt {A:Book} {σ:St} {w:World} (hR:Rep A σ w) {l k:Nat} (h1:1≤l % 131072) (h2:l % 131072≤σ.slots) (hk:k≤2):wslot l k<σ.words.length:=by rw[hR.nw];unfold wslot slotOf;omega
theorem k_visit {A:Book} {σ:St} {w:World} (hR:Rep A σ w) (s:Nat) (t:Txn) (ht:σ.txns.getD s none=some t) (hu:Hunt) (link b0 b1:Nat) (B0:HuntBox (kp A σ s) A.L w b0 hu) (B1:Box A.L w b1 (zu (link:Int)))
 (h1:1≤link % 131072) (h2:link % 131072≤σ.slots) (hl:link<18446744073709551616) (hx:σ.word (wslot link 0)<18446744073709551616) (hc:σ.count<4000000000000000000):
 Calls Tryz.prog 180 #[.pointer (some ⟨b0,0,none⟩),.pointer (some ⟨b1,0,none⟩)] w (Ran A w s (σ.run s (.visit hu link))):=by
 have hsl:=hR.sl;obtain⟨bh,X0,vt,TT,fh,hth⟩:=B0;have c0:=X0.cell;have c1:=B1.cell;have h0:w.cell? ⟨bh,0,none⟩=some (.pointer (some ⟨A.be,0,none⟩)):=fh.cell 0 rfl;have e2:w.cell? ⟨A.be,2,none⟩=some (.pointer (some ⟨A.ba,0,none⟩)):=hR.eng 2 rfl;have HK:Hid (∀ w',Kp A w w'→w'.cell? ⟨b0,0,none⟩=some (.pointer (some ⟨bh,0,none⟩))∧w'.cell? ⟨b1,0,none⟩=some (zu (link:Int))∧w'.cell? ⟨bh,0,none⟩=some (.pointer (some ⟨A.be,0,none⟩))∧w'.cell? ⟨A.be,2,none⟩=some (.pointer (some ⟨A.ba,0,none⟩))):=by
  obtain⟨_,x0⟩:=X0;obtain⟨_,x1⟩:=B1;exact fun w' k=>⟨k.fix _ _ _ x0.1 c0,k.fix _ _ _ x1.1 c1,k.fix _ _ _ fh.1 h0,k.ea⟩
 have HS:=zH (slot_at link 0 0 rfl h1 (by omega) hl (by omega));have HL:=zH (load_any hR.drew (wslot link 0) (wslot_lt hR h1 h2 (by omega)) hc);have HG:Hid (Grow A.L w A.L w.drew):=Grow.drew _ _;have hh0:HuntAt (kp A σ s) A.L w bh hu:=⟨vt,TT,fh,hth⟩
 have HB:Hid (∀ w1,Rep A σ.tick w1→Grow A.L w A.L w1→Calls Tryz.prog 181 #[.pointer (some ⟨bh,0,none⟩),zu (link:Int),zu (σ.word (wslot link 0):Int)] w1 (Tells A w1 s (σ.tick,σ.beginK s hu link (σ.word (wslot link 0))))):=
  fun w1 r g=>begin_any r s t ht bh hu (hh0.grow g) link _ hx
 clear hR ht X0 B1 fh hth h1 h2 hl hx hc hsl hh0;go_enter Tryz.func180,Tryz.ntmps180;go_wp2_with fail
 go_region_held3 (fun w'=>w'.cell? ⟨b0,0,none⟩=some (.pointer (some ⟨bh,0,none⟩))∧w'.cell? ⟨b1,0,none⟩=some (zu (link:Int))∧w'.cell? ⟨bh,0,none⟩=some (.pointer (some ⟨A.be,0,none⟩))∧w'.cell? ⟨A.be,2,none⟩=some (.pointer (some ⟨A.ba,0,none⟩)))
  (first|exact⟨c0,c1,h0,e2⟩|assumption|exact HK.out _ (Kp.of (by assumption) (by assumption) (by assumption)))
  (first|(go_at_call 62;refine (HS.out _).mono ?_;rintro e w' ⟨rfl,rfl⟩)|(go_at_call 73;refine HL.out.mono ?_;rintro e w1 ⟨rfl,q1,q2⟩;have q4:=HG.out.trans q2;have q3:=Stay.refl A s;clear q2)|(go_at_call 181;refine (HB.out _ (by assumption) (by assumption)).mono ?_;rintro e w2 ⟨A',v,rfl,p1,p2,p3,p4⟩;have p5:=(‹Grow A.L w A.L _›).trans p2))
 go_wp2_with fail;go_ret;exact⟨A',_,rfl,p1,p5,p3,p4⟩
end Go.Proofs.YtbefcdjcefmicaaGreat.Em
