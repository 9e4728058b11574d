import Derived.Test.YtmgghljjjpcgkaaGreatQz7
import Derived.Test.YtmgghljjjpcgkaaGreatQz6
import Derived.Defers
namespace Go.Proofs.YtmgghljjjpcgkaaGreat.Em
open Go.ChangeShapes Go.WideShapes Go.ChangeAt Go.RowKit En
set_option linter.unusedVariables false
set_option linter.unusedSimpArgs false
set_option maxRecDepth 100000
set_option maxHeartbeats 1600000
variable {A:Book} {σ:St} {w:World}
theorem finish_any (hR:Rep A σ w) (s:Nat) (c:Cal) (hc:σ.calls.getD s none=some c) (r:Res) (a:Option Addr) (pn pc:Nat) (vp:Value) (hvp:vp=.slice a pn pc)
 (hp:(vp=A.vpairs s∧r.pairs=c.r.pairs)∨(vp=.slice none 0 0∧r.pairs=[])):
 Calls Tryz.prog 129 #[.pointer (some ⟨A.be,0,none⟩),.pointer (some ⟨A.bc s,0,none⟩),.agg #[zi (r.e:Int),zi (r.value:Int),vp,zi (r.over:Int),zi (r.reason:Int)]] w (Ran A w s (σ.finish s r,none)):=by
 obtain⟨r1,g1,f0⟩:=allocs1 hR #[zi (r.e:Int),zi (r.value:Int),vp,zi (r.over:Int),zi (r.reason:Int)] 63;obtain⟨r2,g2⟩:=r1.resSet hc r vp hp;have hc2:(σ.setC s {c with r:=r}).calls.getD s none=some {c with r:=r}:=by rw[getC_set (lt_of_call hc),if_pos rfl]
 obtain⟨r3,g3⟩:=r2.setCall hc2 {c with r:=r,over:=true} 11 (.bool true) rfl rfl;have c11:=r2.call hc2 11 (v:=.bool c.over) rfl;have z11:=r2.callF hc2 11;have ht:(w.alloc (.cells #[zi (r.e:Int),zi (r.value:Int),vp,zi (r.over:Int),zi (r.reason:Int)] 63)).there (A.bc s) 5 5:=by
  intro j hj;refine⟨?_,r1.callF hc _⟩
  match j,hj with
  |0,_=>rw[r1.call hc 5 rfl];rfl
  |1,_=>rw[r1.call hc 6 rfl];rfl
  |2,_=>rw[r1.call hc 7 rfl];rfl
  |3,_=>rw[r1.call hc 8 rfl];rfl
  |4,_=>rw[r1.call hc 9 rfl];rfl
 have b0:=f0.cell 0 (v:=zi (r.e:Int)) rfl;have b1:=f0.cell 1 (v:=zi (r.value:Int)) rfl;have b2:=f0.cell 2 (v:=vp) rfl;have b3:=f0.cell 3 (v:=zi (r.over:Int)) rfl;have b4:=f0.cell 4 (v:=zi (r.reason:Int)) rfl;have e:σ.finish s r=(σ.setC s {c with r:=r}).setC s {c with r:=r,over:=true}:=by
  unfold St.finish St.setC;rw[call_get hc];simp
 rw[e];have HR:Hid (∀ ws,ws=(w.alloc (.cells #[zi (r.e:Int),zi (r.value:Int),vp,zi (r.over:Int),zi (r.reason:Int)] 63)).setCells (A.bc s) 5 [zi (r.e:Int),zi (r.value:Int),vp,zi (r.over:Int),zi (r.reason:Int)]→ws.cell? ⟨A.bc s,11,none⟩=some (.bool c.over)∧ws.frozen? ⟨A.bc s,11,none⟩=false∧Rep (A.resPairs s vp) ((σ.setC s {c with r:=r}).setC s {c with r:=r,over:=true}) (ws.setCell ⟨A.bc s,11,none⟩ (.bool true))∧Grow A.L w A.L (ws.setCell ⟨A.bc s,11,none⟩ (.bool true))):=by
  rintro ws rfl;exact⟨c11,z11,r3,(g1.trans g2).trans g3⟩
 have HT:=zH ht;clear hR hc r1 g1 f0 r2 g2 hc2 r3 g3 ht e hp c11 z11;subst hvp;go_enter Tryz.func129,Tryz.ntmps129;go_wp2_with (refine wpList_store_mid rfl 63 (.tmp 10) (.tmp 8) rfl (A.bc s) 5 #[zi (r.e:Int),zi (r.value:Int),.slice a pn pc,zi (r.over:Int),zi (r.reason:Int)] rfl rfl HT.out (by kernel_rfl) (by simp[Value.oneCell']) ?_;generalize hws:World.setCells _ _ _ _=ws;obtain⟨k1,k2,k3⟩:=HR.out ws hws.symm;have HK:=zH k3;clear k3 hws);go_ret;exact⟨_,_,rfl,HK.out.1,HK.out.2,⟨rfl,rfl,rfl,rfl,rfl,rfl,rfl,rfl,rfl,rfl,rfl,fun _ _=>rfl,fun k hk=>upF_other _ _ hk⟩,rfl⟩
theorem k_fin (hR:Rep A σ w) (s:Nat) (c:Cal) (hc:σ.calls.getD s none=some c) (r:Res) (b0 b1 b2:Nat) (B0:Box A.L w b0 (.pointer (some ⟨A.be,0,none⟩))) (B1:Box A.L w b1 (.pointer (some ⟨A.bc s,0,none⟩))) (B2:ResBox (kp A σ s) A.L w b2 r):
 Calls Tryz.prog 128 #[.pointer (some ⟨b0,0,none⟩),.pointer (some ⟨b1,0,none⟩),.pointer (some ⟨b2,0,none⟩)] w (Ran A w s (σ.run s (.fin r))):=by
 obtain⟨vp,TT,F2,hp⟩:=B2;have hps:(kp A σ s).ps=c.r.pairs:=by show (σ.c s).r.pairs=_;rw[call_get hc]
 rw[hps] at hp;have hform:∃ a n cap,vp=.slice a n cap:=by
  rcases hp with ⟨h1,_⟩|⟨h1,_⟩
  · have hown:=hR.mem.all (.pairs s)
    rw[mem_pairs hc] at hown;obtain⟨a,cap,h2,_⟩:=Ow.own_form hown.1;exact⟨a,_,cap,h1.trans h2⟩
  · exact⟨none,0,0,h1⟩
 obtain⟨a,pn,pc,hvp⟩:=hform;have HF:=zH (finish_any hR s c hc r a pn pc vp hvp hp);have c0:=B0.cell;have c1:=B1.cell;have d0:=F2.cell 0 (v:=zi (r.e:Int)) rfl;have d1:=F2.cell 1 (v:=zi (r.value:Int)) rfl;have d2:=F2.cell 2 (v:=vp) rfl;have d3:=F2.cell 3 (v:=zi (r.over:Int)) rfl;have d4:=F2.cell 4 (v:=zi (r.reason:Int)) rfl;clear hR hc B0 B1 F2 hp hps;subst hvp;go_enter Tryz.func128,Tryz.ntmps128;go_wp2_with (go_at_call 129;refine HF.out.mono ?_;rintro e w2 ⟨A2,v,rfl,p1,p2,p3,rfl⟩);go_ret;exact⟨A2,_,rfl,p1,p2,p3,rfl⟩
theorem garb_any (b x low:Nat) (hx:x<18446744073709551616) (w:World):Calls Tryz.prog 189 #[zu (b:Int),zu (x:Int),zu (low:Int)] w fun e w'=>e=.returned (.bool (garbage x low))∧Below w.heap.size w w':=by
 have HR:=zH (rd_any x hx);unfold garbage;generalize (rd x).1=k at*;generalize (rd x).2=n at*;have hk1:((k:Int)=1)=(k=1):=by simp;omega
 by_cases h1:k=1
 · have f1:((k:Int)=1)=True:=by simp;omega
   have f2:((k:Int)==1)=true:=by simp;omega
   have f3:(k==1)=true:=by simp;omega
   by_cases h2:1≤n
   · have g1:((1:Int)≤(n:Int))=True:=by simp;omega
     have g2:decide ((1:Int)≤(n:Int))=true:=by simp;omega
     have g3:decide (1≤n)=true:=by simp;omega
     by_cases h3:n≤low
     · have k1:((n:Int)≤(low:Int))=True:=by simp;omega
       have k2:decide ((n:Int)≤(low:Int))=true:=by simp;omega
       have k3:decide (n≤low)=true:=by simp;omega
       rw[f3,g3,k3];clear h1 h2 h3 hk1 hx;go_enter Tryz.func189,Tryz.ntmps189;go_wp2_with (go_at_call 69;refine (HR.out _).mono ?_;rintro e w1 ⟨rfl,hb⟩;have HB:=zH hb;clear hb);go_ret;exact⟨rfl,HB.out.alloc HB.out.size _⟩
     · have k1:((n:Int)≤(low:Int))=False:=by simp;omega
       have k2:decide ((n:Int)≤(low:Int))=false:=by simp;omega
       have k3:decide (n≤low)=false:=by simp;omega
       rw[f3,g3,k3];clear h1 h2 h3 hk1 hx;go_enter Tryz.func189,Tryz.ntmps189;go_wp2_with (go_at_call 69;refine (HR.out _).mono ?_;rintro e w1 ⟨rfl,hb⟩;have HB:=zH hb;clear hb);go_ret;exact⟨rfl,HB.out.alloc HB.out.size _⟩
   · have g1:((1:Int)≤(n:Int))=False:=by simp;omega
     have g2:decide ((1:Int)≤(n:Int))=false:=by simp;omega
     have g3:decide (1≤n)=false:=by simp;omega
     rw[f3,g3];clear h1 h2 hk1 hx;go_enter Tryz.func189,Tryz.ntmps189;go_wp2_with (go_at_call 69;refine (HR.out _).mono ?_;rintro e w1 ⟨rfl,hb⟩;have HB:=zH hb;clear hb);go_ret;exact⟨rfl,HB.out.alloc HB.out.size _⟩
 · have f1:((k:Int)=1)=False:=by simp;omega
   have f2:((k:Int)==1)=false:=by simp;omega
   have f3:(k==1)=false:=by simp;omega
   rw[f3];clear h1 hk1 hx;go_enter Tryz.func189,Tryz.ntmps189;go_wp2_with (go_at_call 69;refine (HR.out _).mono ?_;rintro e w1 ⟨rfl,hb⟩;have HB:=zH hb;clear hb);go_ret;exact⟨rfl,HB.out.alloc HB.out.size _⟩
theorem liveS_some (s:Nat):∃ k,liveS s=some k:=by
 unfold liveS headS
 split
 · exact⟨_,rfl⟩
 · exact⟨_,rfl⟩
theorem k_live (hR:Rep A σ w) (s:Nat) (hs:s<8) (hcnt:σ.count<4000000000000000000) (b0 b1:Nat) (B0:Box A.L w b0 (.pointer (some ⟨A.be,0,none⟩))) (B1:Box A.L w b1 (zi (s:Int))):
 Calls Tryz.prog 117 #[.pointer (some ⟨b0,0,none⟩),.pointer (some ⟨b1,0,none⟩)] w (SRan A σ w (σ.sweepRun (.live s))):=by
 have c0:=B0.cell;have c1:=B1.cell;have e2:=hR.z2;have n1:IntKind.i64.wrap (1+(s:Int))=1+(s:Int):=by rw[IntKind.wrap_i64];omega
 have n2:IntKind.i64.wrap ((s:Int)+1)=((s+1:Nat):Int):=by rw[IntKind.wrap_i64];omega
 have HL:Hid (∀ w',Rep A σ w'→Calls Tryz.prog 45 #[.pointer (some ⟨A.ba,0,none⟩),zi (1+(s:Int))] w' (Did A w' σ.tick (zu (σ.word (1+s):Int)))):=fun w' r=>load_i r (1+s) (1+(s:Int)) (by omega) (by rw[r.nw];omega) hcnt
 have HRd:Hid (Rep A σ w.drew):=hR.drew;have HG:=zG A.L w;have HKK:Hid (∀ σ' w',Rep A σ' w'→Grow A.L w A.L w'→w'.cell? ⟨b0,0,none⟩=some (.pointer (some ⟨A.be,0,none⟩))∧w'.cell? ⟨b1,0,none⟩=some (zi (s:Int))∧w'.cell? ⟨A.be,2,none⟩=some (.pointer (some ⟨A.ba,0,none⟩))):=fun σ' w' r g=>⟨(B0.grow g).cell,(B1.grow g).cell,r.eng 2 rfl⟩
 have HKS:Hid (∀ σ' w' x,Rep A σ' w'→Grow A.L w A.L w'→(w'.setCell ⟨A.be,25,none⟩ x).cell? ⟨b0,0,none⟩=some (.pointer (some ⟨A.be,0,none⟩))∧(w'.setCell ⟨A.be,25,none⟩ x).cell? ⟨b1,0,none⟩=some (zi (s:Int))∧(w'.setCell ⟨A.be,25,none⟩ x).cell? ⟨A.be,2,none⟩=some (.pointer (some ⟨A.ba,0,none⟩))):=fun σ' w' x r g=>let ⟨r',g'⟩:=r.sweepSet x .now;⟨(B0.grow (g.trans g')).cell,(B1.grow (g.trans g')).cell,r'.eng 2 rfl⟩
 have HM:Hid (∀ σ' w',Rep A σ' w'→Calls Tryz.prog 84 #[.pointer (some ⟨A.be,0,none⟩),zi ((s+1:Nat):Int)] w' (STells A σ' w' (liveS (s+1)))):=fun σ' w' r=>slive_any r (s+1) (by omega)
 obtain⟨kx,hkx⟩:=liveS_some (s+1);have HRES:σ.sweepRun (.live s)=({σ.tick with low:=if 0<σ.word (1+s) then min σ.low (σ.word (1+s)) else σ.low,sw:=some kx},false):=by rw[←hkx];rfl
 rw[HRES];clear hR hcnt B0 B1 HRES;generalize σ.word (1+s)=at_ at*;generalize ((s+1:Nat):Int)=s1 at*
 by_cases h0:0<at_
 · have f1:((0:Int)<(at_:Int))=True:=by simp;omega
   have f2:decide ((0:Int)<(at_:Int))=true:=by simp;omega
   have f3:decide (0<at_)=true:=by simp;omega
   have f4:(0<at_)=True:=by simp;omega
   have hmin:((min σ.low at_:Nat):Int)=(if at_<σ.low then (at_:Int) else (σ.low:Int)):=by split<;>omega
   have HLOW:Hid (∀ w',Rep A σ.tick w'→Rep A {σ.tick with low:=min σ.low at_} (w'.setCell ⟨A.be,26,none⟩ (zu ((min σ.low at_:Nat):Int)))∧Grow A.L w' A.L (w'.setCell ⟨A.be,26,none⟩ (zu ((min σ.low at_:Nat):Int)))):=fun w' r=>r.lowSet _
   rw[hmin] at HLOW;generalize min σ.low at_=mn at*;clear hmin;rw[if_pos h0];clear h0;go_enter Tryz.func117,Tryz.ntmps117;go_wp2_with fail
   go_region_held3 (fun w'=>w'.cell? ⟨b0,0,none⟩=some (.pointer (some ⟨A.be,0,none⟩))∧w'.cell? ⟨b1,0,none⟩=some (zi (s:Int))∧w'.cell? ⟨A.be,2,none⟩=some (.pointer (some ⟨A.ba,0,none⟩)))
    (first|exact⟨c0,c1,e2⟩|assumption|go_keep|exact HKK.out _ _ (by assumption) (by assumption))
    (first|(go_at_call 45;refine (HL.out _ HRd.out).mono ?_;rintro e w1 ⟨rfl,q1,q2⟩;have q4:=HG.out.trans q2))
   obtain⟨d0,d1,d2⟩:=HKK.out _ _ q1 q4;have y26:w1.cell? ⟨A.be,26,none⟩=some (zu (σ.low:Int)):=q1.eng 26 rfl;have z26:=q1.engF 26;have HQ:=zH (zA q1 q4);clear q1 q2 q4;go_wp2_with fail;refine wp_region_still_tail 11 (by kernel_rfl) (by kernel_rfl) ?_;simp only[zta,ztb,ztc,ztd]
   repeat still_step
   refine wpStill_nil ?_;change wpList _ _ _ _ _ w1.drew;have y26d:w1.drew.cell? ⟨A.be,26,none⟩=some (zu (σ.low:Int)):=y26;have z26d:w1.drew.frozen? ⟨A.be,26,none⟩=false:=z26;have HQ2:=zH (zA HQ.out.1.drew (HQ.out.2.trans (Grow.drew _ _)));clear y26 z26 HQ d0 d1 d2;generalize w1.drew=wd at*;obtain⟨r3,g3⟩:=HLOW.out _ HQ2.out.1;have HQ3:=zH (zA r3 (HQ2.out.2.trans g3));clear r3 g3 HQ2 HLOW;generalize (if at_<σ.low then (at_:Int) else (σ.low:Int))=mz at*;go_upto_region 4 with fail
   generalize wd.setCell ⟨A.be,26,none⟩ (zu mz)=we at*;obtain⟨d0,d1,d2⟩:=HKK.out _ _ (HQ3.out.1) (HQ3.out.2);have HQ1:=zH (HQ3.out.1).drew;have HG1:=zH ((HQ3.out.2).trans (Grow.drew _ _));go_wp2_with fail
   go_region_held3 (fun w'=>w'.cell? ⟨b0,0,none⟩=some (.pointer (some ⟨A.be,0,none⟩))∧w'.cell? ⟨b1,0,none⟩=some (zi (s:Int))∧w'.cell? ⟨A.be,2,none⟩=some (.pointer (some ⟨A.ba,0,none⟩)))
    (first|exact⟨d0,d1,d2⟩|assumption|go_keep|exact HKK.out _ _ (by assumption) (by assumption)|exact HKS.out _ _ _ (by assumption) (by assumption))
    (first|(go_at_call 84;refine (HM.out _ _ HQ1.out).mono ?_;rintro e w2 ⟨v,rfl,p1,p2,p3⟩;rw[hkx] at p3;obtain⟨fv,fb,fc,e3⟩:=SRep.form p3;subst e3;have z25:=p1.engF 25;obtain⟨vo,y25⟩:∃ vo,w2.cell? ⟨A.be,25,none⟩=some vo:=⟨_,p1.eng 25 rfl⟩;have q5:=HG1.out.trans p2;have HP:=zH p3;clear p2 p3))
   go_wp2_with fail;go_ret;obtain⟨A',a1,a2,a3,a4,a5⟩:=p1.sweepPut _ _ HP.out;exact⟨rfl,A',a1,a3,q5.trans a4,a5,fun hc=>hc.keep a2 rfl (q5.trans a4)⟩
 · have f1:((0:Int)<(at_:Int))=False:=by simp;omega
   have f2:decide ((0:Int)<(at_:Int))=false:=by simp;omega
   have f3:decide (0<at_)=false:=by simp;omega
   have f4:(0<at_)=False:=by simp;omega
   rw[if_neg h0];clear h0;go_enter Tryz.func117,Tryz.ntmps117;go_wp2_with fail
   go_region_held3 (fun w'=>w'.cell? ⟨b0,0,none⟩=some (.pointer (some ⟨A.be,0,none⟩))∧w'.cell? ⟨b1,0,none⟩=some (zi (s:Int))∧w'.cell? ⟨A.be,2,none⟩=some (.pointer (some ⟨A.ba,0,none⟩)))
    (first|exact⟨c0,c1,e2⟩|assumption|go_keep|exact HKK.out _ _ (by assumption) (by assumption))
    (first|(go_at_call 45;refine (HL.out _ HRd.out).mono ?_;rintro e w1 ⟨rfl,q1,q2⟩;have q4:=HG.out.trans q2))
   obtain⟨d0,d1,d2⟩:=HKK.out _ _ (q1) (q4);have HQ1:=zH (q1).drew;have HG1:=zH ((q4).trans (Grow.drew _ _));go_wp2_with fail
   go_region_held3 (fun w'=>w'.cell? ⟨b0,0,none⟩=some (.pointer (some ⟨A.be,0,none⟩))∧w'.cell? ⟨b1,0,none⟩=some (zi (s:Int))∧w'.cell? ⟨A.be,2,none⟩=some (.pointer (some ⟨A.ba,0,none⟩)))
    (first|exact⟨d0,d1,d2⟩|assumption|go_keep|exact HKK.out _ _ (by assumption) (by assumption)|exact HKS.out _ _ _ (by assumption) (by assumption))
    (first|(go_at_call 84;refine (HM.out _ _ HQ1.out).mono ?_;rintro e w2 ⟨v,rfl,p1,p2,p3⟩;rw[hkx] at p3;obtain⟨fv,fb,fc,e3⟩:=SRep.form p3;subst e3;have z25:=p1.engF 25;obtain⟨vo,y25⟩:∃ vo,w2.cell? ⟨A.be,25,none⟩=some vo:=⟨_,p1.eng 25 rfl⟩;have q5:=HG1.out.trans p2;have HP:=zH p3;clear p2 p3))
   go_wp2_with fail;go_ret;obtain⟨A',a1,a2,a3,a4,a5⟩:=p1.sweepPut _ _ HP.out;exact⟨rfl,A',a1,a3,q5.trans a4,a5,fun hc=>hc.keep a2 rfl (q5.trans a4)⟩
theorem sw_now (hR:Rep A σ w) (hcnt:σ.count<4000000000000000000) (hx:σ.word 0<18446744073709551616):
 Calls Tryz.prog 60 #[.pointer (some ⟨A.be,0,none⟩)] w (SRan A σ w (σ.sweepRun .now)):=by
 have e2:=hR.z2;have HL:Hid (Calls Tryz.prog 45 #[.pointer (some ⟨A.ba,0,none⟩),zi 0] w (Did A w σ.tick (zu (σ.word 0:Int)))):=load_i hR 0 0 rfl (by rw[hR.nw];omega) hcnt;have HD:=zH (drawn_any (σ.word 0) hx);have HM:Hid (∀ σ' w',Rep A σ' w'→Calls Tryz.prog 84 #[.pointer (some ⟨A.be,0,none⟩),zi 0] w' (STells A σ' w' (liveS 0))):=fun σ' w' r=>slive_any r 0 (by omega)
 obtain⟨kx,hkx⟩:=liveS_some 0;have HRES:σ.sweepRun .now=({σ.tick with low:=timeOf (σ.word 0),sw:=some kx},false):=by rw[←hkx];rfl
 rw[HRES];clear hR hcnt hx HRES;generalize timeOf (σ.word 0)=tt at*;generalize (σ.word 0:Int)=x0 at*;go_enter Tryz.func60,Tryz.ntmps60;go_wp2_with (first|(go_at_call 45;refine HL.out.mono ?_;rintro e w1 ⟨rfl,q1,q2⟩;have y26:w1.cell? ⟨A.be,26,none⟩=some (zu (σ.low:Int)):=(q1.eng 26 rfl);have z26:=q1.engF 26;have hls:=q1.lowSet tt;have HQ:=zH (zA hls.1 (q2.trans hls.2));clear q1 q2 hls)|(go_at_call 46;refine (HD.out _).mono ?_;rintro e w9 ⟨rfl,rfl⟩)|(go_at_call 84;refine (HM.out _ _ HQ.out.1).mono ?_;rintro e w2 ⟨v,rfl,p1,p2,p3⟩;rw[hkx] at p3;obtain⟨fv,fb,fc,e3⟩:=SRep.form p3;subst e3;have z25:=p1.engF 25;obtain⟨vo,y25⟩:∃ vo,w2.cell? ⟨A.be,25,none⟩=some vo:=⟨_,p1.eng 25 rfl⟩;have q5:=HQ.out.2.trans p2;have HP:=zH p3;clear p2 p3));go_ret;obtain⟨A',a1,a2,a3,a4,a5⟩:=p1.sweepPut _ _ HP.out;exact⟨rfl,A',a1,a3,q5.trans a4,a5,fun hc=>hc.keep a2 rfl (q5.trans a4)⟩
theorem sweep_countD (hR:Rep A σ w) (cb dl:Nat) (hd:σ.count=cb+dl) (hc:σ.count<4000000000000000000) (hlk:σ.looks<1000000000000000000) (hdl:dl<1000000) (b0 b1:Nat) (B0:Box A.L w b0 (.pointer (some ⟨A.be,0,none⟩))) (B1:Box A.L w b1 (zi (cb:Int))):
 CallsD Tryz.prog 58 #[.pointer (some ⟨b0,0,none⟩),.pointer (some ⟨b1,0,none⟩)] .returning w fun e u w'=>e=.returned (.tuple #[])∧u=.returning∧Rep A {σ with looks:=σ.looks+dl} w'∧Grow A.L w A.L w':=by
 have c0:=B0.cell;have c1:=B1.cell;have e2:=hR.z2;have e23:w.cell? ⟨A.be,23,none⟩=some (zi (σ.looks:Int)):=hR.eng 23 rfl;have n1:IntKind.i64.wrap (((cb+dl:Nat):Int) - (cb:Int))=(dl:Int):=by rw[IntKind.wrap_i64];omega
 have n2:IntKind.i64.wrap ((σ.looks:Int)+(dl:Int))=((σ.looks+dl:Nat):Int):=by rw[IntKind.wrap_i64];omega
 have HC:=zH ((count_any hR.drew hc).mono (fun e w9 h=>(⟨h.1,h.2.symm⟩:e=_∧w9=w.drew)));rw[hd] at HC;have HL:=zH (hR.drew.looksSet (σ.looks+dl));have HR:=zH hR;clear hR hd hc hlk hdl B0 B1;generalize ((cb+dl:Nat):Int)=c2 at*;generalize hlz:((σ.looks+dl:Nat):Int)=lz at*;refine callsD_of_wpS Tryz.func58 rfl fun c₀ cs hu=>?_
 refine wpS_of_wp ?_;change Code.wp _ _ _ {tmps:=#[.pointer (some ⟨b0,0,none⟩),.pointer (some ⟨b1,0,none⟩),undef,undef,undef,undef,undef,undef,undef,undef,undef,undef,undef,undef,undef,undef],defers:=[]} w;have HC0:=zH hu;clear hu;generalize hQ:(fun (e:Exit) (a':Act) (w':World)=>bodyPostS _ _ _ _ _ e a' _ w')=Q;have HQ:=zH hQ;clear hQ;go_wp2_with fail;refine wp_region_still_tail 14 (by kernel_rfl) (by kernel_rfl) ?_;simp only[zta,ztb,ztc,ztd]
 repeat still_step
 still_call HC.out
 repeat still_step
 refine wpStill_nil ?_;change wpList _ _ _ _ _ w.drew;have y23:w.drew.cell? ⟨A.be,23,none⟩=some (zi (σ.looks:Int)):=e23;have z23:w.drew.frozen? ⟨A.be,23,none⟩=false:=HR.out.engF 23;have HG:=zH (Grow.drew A.L w);generalize w.drew=wd at*;go_wp2_with fail;rw[←HQ.out];have hu:=HC0.out;have hr:=zA HL.out.1 (HG.out.trans HL.out.2)
 cases c₀
 simp_all[bodyPostS,results,Tryz.results58]
end Go.Proofs.YtmgghljjjpcgkaaGreat.Em
