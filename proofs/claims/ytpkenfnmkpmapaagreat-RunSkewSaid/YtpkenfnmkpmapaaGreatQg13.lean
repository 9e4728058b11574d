import Derived.Test.YtpkenfnmkpmapaaGreatQg7
import Derived.Test.YtpkenfnmkpmapaaGreatQg9
namespace Go.Proofs.YtpkenfnmkpmapaaGreat.Em
open Go.ChangeShapes Go.WideShapes Go.ChangeAt Go.RowKit En
set_option linter.unusedVariables false
set_option linter.unusedSimpArgs false
set_option maxRecDepth 100000
set_option maxHeartbeats 1600000
theorem sessionOk (s:Nat) (hs:s<8) (w:World):Calls Tryz.prog 36 #[zi (s:Int)] w fun e w'=>e=.returned (.bool true)∧w=w':=by
 have h1:(0:Int)≤(s:Int):=by omega
 have h2:(s:Int)<8:=by omega
 have h3:decide ((0:Int)≤(s:Int))=true:=by simp
 have h4:decide ((s:Int)<8)=true:=by simp;omega
 have h5:(s<8)=True:=by simpa using hs
 go_enter Tryz.func36,Tryz.ntmps36;go_wp2;go_ret;exact⟨rfl,rfl⟩
structure Live (A:Book) (σ:St) (w:World):Prop where
 rep:Rep A σ w
 mp:A.mp=0
 mt:∀ s,A.mt s=0
 call:∀ s,s<8→∀ c,σ.calls.getD s none=some c→A.vcall s=ptr (A.bc s)∧∃ k,c.k=some k∧KRep (kp A σ s) A.L w (A.vnext s) k
 idle:∀ s,s<8→σ.calls.getD s none=none→A.vcall s=.pointer none
 sx:SwRep A σ w
structure StayQ (A A':Book) (s:Nat):Prop where
 bf:A'.bef=A.bef
 mp:A'.mp=A.mp
 mt:A'.mt=A.mt
 bt:∀ q,q≠s→A'.bt q=A.bt q
 bc:∀ q,q≠s→A'.bc q=A.bc q
 bx:∀ q,q≠s→A'.bx q=A.bx q
 vpairs:∀ q,q≠s→A'.vpairs q=A.vpairs q
 vnext:∀ q,q≠s→A'.vnext q=A.vnext q
 vcall:∀ q,q≠s→A'.vcall q=A.vcall q
theorem StayQ.be {A A':Book} {s:Nat} (h:StayQ A A' s):A'.be=A.be:=bef_be h.bf
theorem Live.of {A A':Book} {σ σ':St} {w w':World} {s:Nat} (hL:Live A σ w) (hsw:σ'.sw=σ.sw∧σ'.cut=σ.cut) (r:Rep A' σ' w') (g:Grow A.L w A'.L w') (st:StayQ A A' s) (hq:∀ q,q≠s→σ'.calls.getD q none=σ.calls.getD q none)
 (h1:∀ c,σ'.calls.getD s none=some c→A'.vcall s=ptr (A'.bc s)∧∃ k,c.k=some k∧KRep (kp A' σ' s) A'.L w' (A'.vnext s) k) (h2:σ'.calls.getD s none=none→A'.vcall s=.pointer none):Live A' σ' w':=by
 refine⟨r,st.mp.trans hL.mp,fun q=>by rw[st.mt];exact hL.mt q,fun q hq8 c hc=>?_,fun q hq8 hc=>?_,hL.sx.keep st.bf hsw g⟩
 · by_cases h:q=s
   · subst h;exact h1 c hc
   · have hc0:=(hq q h).symm.trans hc
     obtain⟨e1,k,e2,e3⟩:=hL.call q hq8 c hc0;have ek:kp A' σ' q=kp A σ q:=by
      unfold kp;rw[st.be,st.bt q h,st.bc q h,st.bx q h,st.vpairs q h,call_get hc,call_get hc0]
     refine⟨by rw[st.vcall q h,st.bc q h];exact e1,k,e2,?_⟩;rw[ek,st.vnext q h];exact e3.grow g
 · by_cases h:q=s
   · subst h;exact h2 hc
   · rw[st.vcall q h]
     exact hL.idle q hq8 ((hq q h).symm.trans hc)
theorem KRep.enter {p:KP} {L:Lab} {w:World} {v:Value} {k:K} (h:KRep p L w v k):∃ f b c,v=.func (.func f) b c∧∀ args w,(callFunc f args).run Tryz.prog w=.ok (.enter f args) w:=by
 cases k<;>first
  |(obtain⟨b0,e,_⟩:=h;exact⟨_,_,_,e,fun args w=>by kernel_rfl⟩)
  |(obtain⟨b0,b1,e,_⟩:=h;exact⟨_,_,_,e,fun args w=>by kernel_rfl⟩)
  |(obtain⟨b0,b1,b2,e,_⟩:=h;exact⟨_,_,_,e,fun args w=>by kernel_rfl⟩)
  |(obtain⟨b0,b1,b2,b3,e,_⟩:=h;exact⟨_,_,_,e,fun args w=>by kernel_rfl⟩)
  |(obtain⟨b0,b1,b2,b3,b4,e,_⟩:=h;exact⟨_,_,_,e,fun args w=>by kernel_rfl⟩)
  |(obtain⟨b0,b1,b2,b3,b4,b5,e,_⟩:=h;exact⟨_,_,_,e,fun args w=>by kernel_rfl⟩)
  | (rename_i l r; cases l
     · obtain⟨b0,b1,b2,b3,e,_⟩:=h;exact⟨_,_,_,e,fun args w=>by kernel_rfl⟩
     · obtain⟨b0,b1,b2,b3,b4,e,_⟩:=h;exact⟨_,_,_,e,fun args w=>by kernel_rfl⟩)
def Stepped (A:Book) (w:World) (σ':St) (kind:Int) (r:Res):Ending→World→Prop:=fun e w'=>∃ A' vp,e=.returned (.tuple #[.agg #[zi kind,zi (r.e:Int),zi (r.value:Int),vp,zi (r.over:Int),zi (r.reason:Int)],zi 0])∧FRow A'.L w' 2 vp (pairCs r.pairs)∧Live A' σ' w'∧Grow A.L w A'.L w'∧A'.be=A.be
def RunsTo (σ1:St) (s:Nat) (k:K):Prop:=∀ A w1 f b c,Rep A σ1 w1→A.mp=0→A.mt s=0→KRep (kp A σ1 s) A.L w1 (.func (.func f) b c) k→Calls Tryz.prog f (b++c) w1 (Ran A w1 s (σ1.run s k))
theorem step_go {A:Book} {σ:St} {w:World} (hL:Live A σ w) (s:Nat) (hs:s<8) (t:Txn) (ht:σ.txns.getD s none=some t) (c:Cal) (hc:σ.calls.getD s none=some c) (k:K) (hk:c.k=some k) (hcnt:σ.count<3000000000000000000) (σ2:St) (ok:Option K) (hrun:(σ.setC s {c with waits:=false}).run s k=(σ2,ok)) (HS:RunsTo (σ.setC s {c with waits:=false}) s k) (c2:Cal) (hc2:σ2.calls.getD s none=some c2) (dl:Nat) (hdl:σ2.count=σ.count+dl) (hd1:dl<1000000) (hlk:σ2.looks<1000000000000000000) (hcq:∀ q,q≠s→σ2.calls.getD q none=σ.calls.getD q none) (k':K) (hok:ok=some k') (hov:c2.over=false):
 Calls Tryz.prog 38 #[.pointer (some ⟨A.be,0,none⟩),zi (s:Int)] w (Stepped A w ({σ2.setC s {c2 with k:=ok} with looks:=σ2.looks+dl}) (if c2.waits then 2 else 1) {}):=by
 have HSW:Hid (σ2.sw=σ.sw∧σ2.cut=σ.cut):=zH (by have h:=run_sw (σ.setC s {c with waits:=false}) s k;rw[hrun] at h;exact h);obtain⟨Q,hQ⟩:∃ Q,Q=Stepped A w ({σ2.setC s {c2 with k:=ok} with looks:=σ2.looks+dl}) (if c2.waits then 2 else 1) {}:=⟨_,rfl⟩
 rw[←hQ];have HQ:=zH hQ;clear hQ;obtain⟨r0,g0,fl,fh⟩:=hL.rep.newTmp (.cells #[zi 0,zi 0,zi 0,.slice none 0 0,zi 0,zi 0] 127);obtain⟨hvc,k0,hk0,hkr⟩:=hL.call s hs c hc;obtain rfl:k=k0:=by rw[hk] at hk0;exact Option.some.inj hk0
 obtain⟨fv,fb,fc,hvn,hent⟩:=hkr.enter;have hsok:=zH (sessionOk s hs);have b1:(s:Int)<8:=by omega
 have b0:(0:Int)≤(s:Int):=by omega
 have v0:(w.alloc (.cells #[zi 0,zi 0,zi 0,.slice none 0 0,zi 0,zi 0] 127)).cell? ⟨A.be,13+s,none⟩=some (.pointer (some ⟨A.bc s,0,none⟩)):=by rw[←show A.vcall s=.pointer (some ⟨A.bc s,0,none⟩) from hvc];exact r0.eng (13+s) (engCs_call (A.tmp w.heap.size) σ hs)
 have v1:(w.alloc (.cells #[zi 0,zi 0,zi 0,.slice none 0 0,zi 0,zi 0] 127)).cell? ⟨A.be,5+s,none⟩=some (.pointer (some ⟨A.bt s,0,none⟩)):=by
  have h:=r0.eng (5+s) (engCs_txn (A.tmp w.heap.size) σ hs);have e:(A.tmp w.heap.size).tp σ s=.pointer (some ⟨A.bt s,0,none⟩):=by unfold Book.tp;rw[ht];rfl
  rw[e] at h;exact h
 obtain⟨σ1,hσ1⟩:∃ σ1,σ1=σ.setC s {c with waits:=false}:=⟨_,rfl⟩
 rw[←hσ1] at hrun HS;have hc1:σ1.calls.getD s none=some {c with waits:=false}:=by rw[hσ1,getC_set (lt_of_call hc),if_pos rfl]
 have hkp:kp A σ1 s=kp A σ s:=by unfold kp;rw[call_get hc1,call_get hc]
 have H5:Hid (∀ n w5,(w.alloc (.cells #[zi 0,zi 0,zi 0,.slice none 0 0,zi 0,zi 0] 127)).drewN n=w5→w5.cell? ⟨A.bc s,10,none⟩=some (.bool c.waits)∧w5.frozen? ⟨A.bc s,10,none⟩=false∧∀ w6,w5.setCell ⟨A.bc s,10,none⟩ (.bool false)=w6→w6.cell? ⟨A.be,2,none⟩=some (.pointer (some ⟨A.ba,0,none⟩))∧w6.cell? ⟨A.bc s,4,none⟩=some (.func (.func fv) fb fc)∧Calls Tryz.prog 69 #[.pointer (some ⟨A.ba,0,none⟩)] w6 (fun e w'=>e=.returned (zi (σ.count:Int))∧w6=w')∧Calls Tryz.prog fv (fb++fc) w6 (Ran (A.tmp w.heap.size) w6 s (σ2,ok))∧Grow A.L w (A.tmp w.heap.size).L w6∧((A.tmp w.heap.size).L w.heap.size=some .tmp∧w6.heap[w.heap.size]? =some (.cells #[zi 0,zi 0,zi 0,.slice none 0 0,zi 0,zi 0] 127))):=by
  rintro n w5 rfl;have r5:=r0.drewN n;refine⟨r5.call hc 10 rfl,r5.callF hc 10,?_⟩;rintro w6 rfl;obtain⟨r6,g6⟩:=r5.setCall hc {c with waits:=false} 10 (.bool false) rfl rfl;have g56:=(Grow.drewN (A.tmp w.heap.size).L (w.alloc (.cells #[zi 0,zi 0,zi 0,.slice none 0 0,zi 0,zi 0] 127)) n).trans g6;have gg:=g0.trans g56;rw[←hσ1] at r6;have h4:_=some (A.vnext s):=r6.call hc1 4 rfl;rw[hvn] at h4;have h4':(((w.alloc (.cells #[zi 0,zi 0,zi 0,.slice none 0 0,zi 0,zi 0] 127)).drewN n).setCell ⟨A.bc s,10,none⟩ (.bool false)).cell? ⟨A.bc s,4,none⟩=some (.func (.func fv) fb fc):=h4;have hk6:=(hkr.grow gg)
  rw[hvn,←hkp] at hk6;have hS:=HS (A.tmp w.heap.size) _ fv fb fc r6 hL.mp (hL.mt s) hk6;rw[hrun] at hS;have hcn:=count_any r6 (by rw[hσ1];exact Nat.lt_trans hcnt (by decide));have hcc:σ1.count=σ.count:=by rw[hσ1];rfl
  rw[hcc] at hcn;exact⟨r6.eng 2 rfl,h4',hcn,hS,gg,tmp_grow ⟨fl,fh⟩ g56⟩
 have HL0:=zH hL;have HF:=zH (zA hc2 (zA hdl (zA hcq (zA hs hlk))));have n1:IntKind.i64.wrap (((σ.count+dl:Nat):Int) - (σ.count:Int))=(dl:Int):=by rw[IntKind.wrap_i64];omega
 have n2:IntKind.i64.wrap ((σ2.looks:Int)+(dl:Int))=((σ2.looks+dl:Nat):Int):=by rw[IntKind.wrap_i64];omega
 have H7 : Hid (∀ A2 w2 v A3, A3 = { A2 with vnext := upF A2.vnext s v } → Rep A2 σ2 w2 → Stay (A.tmp w.heap.size) A2 s → w2.cell? ⟨A.bc s, 4, none⟩ = some (A2.vnext s) ∧ w2.frozen? ⟨A.bc s, 4, none⟩ = false ∧ ∀ w3, w2.setCell ⟨A.bc s, 4, none⟩ v = w3 → w3.cell? ⟨A.be, 23, none⟩ = some (zi (σ2.looks : Int)) ∧ w3.frozen? ⟨A.be, 23, none⟩ = false ∧ w3.cell? ⟨A.be, 2, none⟩ = some (.pointer (some ⟨A.ba, 0, none⟩)) ∧ Calls Tryz.prog 69 #[.pointer (some ⟨A.ba, 0, none⟩)] w3.drew (fun e w' => e = .returned (zi ((σ.count + dl : Nat) : Int)) ∧ w' = w3.drew) ∧
     ∀ w4,w3.drew.setCell ⟨A.be,23,none⟩ (zi ((σ2.looks+dl:Nat):Int))=w4→Rep A3 ({σ2.setC s {c2 with k:=ok} with looks:=σ2.looks+dl}) w4∧Grow A2.L w2 A2.L w4∧w4.cell? ⟨A.bc s,10,none⟩=some (.bool c2.waits)∧w4.cell? ⟨A.bc s,11,none⟩=some (.bool c2.over)):=by
  intro A2 w2 v A3 hA3 q st;have ebc:A2.bc=A.bc:=st.bc;have ebe:A2.be=A.be:=st.be;have eba:A2.ba=A.ba:=st.ba;have x4:=q.call hc2 4 (v:=A2.vnext s) rfl;have z4:=q.callF hc2 4;rw[ebc] at x4 z4;refine⟨x4,z4,?_⟩;rintro w3 rfl;obtain⟨r3,g3⟩:=q.nextSet hc2 v ok;rw[←hA3,ebc] at r3;rw[ebc] at g3;have e3:A3.be=A.be:=by rw[hA3];exact ebe
  have e3a:A3.ba=A.ba:=by rw[hA3];exact eba
  have e3c:A3.bc=A.bc:=by rw[hA3];exact ebc
  have e3L:A3.L=A2.L:=by rw[hA3]
  have y23:=r3.eng 23 (v:=zi (σ2.looks:Int)) rfl;have z23:=r3.engF 23;have y2:=r3.eng 2 (v:=.pointer (some ⟨A3.ba,0,none⟩)) rfl;have hcn:=flip (count_any r3.drew (by show σ2.count<_;omega));rw[e3] at y23 z23 y2;rw[e3a] at hcn y2;rw[show (σ2.setC s {c2 with k:=ok}).count=σ.count+dl from hdl] at hcn;refine⟨y23,z23,y2,hcn,?_⟩;intro w4 hw4;obtain⟨r4,g4⟩:=r3.drew.looksSet (σ2.looks+dl);rw[e3,hw4] at r4 g4;rw[e3L] at g4;have hc4:({σ2.setC s {c2 with k:=ok} with looks:=σ2.looks+dl}:St).calls.getD s none=some {c2 with k:=ok}:=by show (σ2.setC s {c2 with k:=ok}).calls.getD s none=_;rw[getC_set (lt_of_call hc2),if_pos rfl]
  have a10:=r4.call hc4 10 (v:=.bool c2.waits) rfl;have a11:=r4.call hc4 11 (v:=.bool c2.over) rfl;rw[e3c] at a10 a11;exact⟨r4,(g3.trans (Grow.drew _ _)).trans g4,a10,a11⟩
 have hwx:(w.alloc (.cells #[zi 0,zi 0,zi 0,.slice none 0 0,zi 0,zi 0] 127)).cell? ⟨A.bc s,10,none⟩=some (.bool c.waits):=r0.call hc 10 rfl;have HVC:=zH hvc;clear hL ht hc hk hcnt hrun HS hc2 hdl hd1 hlk hcq r0 g0 fl fh hvc hk0 hkr hvn hσ1 hc1 hkp hs;generalize (σ.count:Int)=ca at*;generalize ((σ.count+dl:Nat):Int)=cb at*;generalize ((σ2.looks+dl:Nat):Int)=lb at*;go_enter Tryz.func38,Tryz.ntmps38;go_wp2_with (go_at_call 36;refine (hsok.out _).mono ?_;rintro e w' ⟨rfl,rfl⟩);generalize hw0:w.alloc _=w0 at*
 go_quiet (fail)
 generalize hw5:w0.drewN _=w5;obtain⟨x10,z10,h6⟩:=H5.out _ w5 hw5;obtain⟨y2,y4,hcn,hS,gg,fD⟩:=h6 _ rfl;have HC:=zH hcn;have HX:=zH (zA hS (zA gg fD));clear hcn hS gg fD h6 hw5 hw0 H5 v0 v1 hwx;go_wp2_with (go_at_call 69;refine HC.out.mono ?_;rintro e w' ⟨rfl,rfl⟩);refine HX.out.1.mono ?_;rintro e w2 ⟨A2,v,rfl,q1,q2,q3,q4⟩;subst hok;obtain⟨f2,u2,u3,rfl,hent2⟩:=KRep.enter q4;obtain⟨x4,z4,h3⟩:=H7.out A2 w2 (.func (.func f2) u2 u3) _ rfl q1 q3;obtain⟨y23,z23,y2',hcn,h4⟩:=h3 _ rfl;have HC2:=zH hcn;have HX2:=zH (zA q1 (zA q2 (zA q3 (zA q4 h4))));clear hcn h3 h4 q1 q2 q3 q4 H7 x10 z10 y2 y4;go_wp2_with fail;generalize hw3:w2.setCell ⟨A.bc s,4,none⟩ (.func (.func f2) u2 u3)=w3 at*;refine wp_region_still_tail 14 (by kernel_rfl) (by kernel_rfl) ?_;simp only[zta,ztb,ztc,ztd]
 repeat still_step
 still_call HC2.out
 repeat still_step
 refine wpStill_nil ?_;change wpList _ _ _ _ _ w3.drew;have y23d:w3.drew.cell? ⟨A.be,23,none⟩=some (zi (σ2.looks:Int)):=y23;have z23d:w3.drew.frozen? ⟨A.be,23,none⟩=false:=z23;generalize w3.drew=wd at*;obtain⟨r4,g4,a10,a11⟩:=HX2.out.2.2.2.2 _ rfl;have fD:=tmp_grow (tmp_grow HX.out.2.2 HX2.out.2.1) g4;have HTH:=zH (there_of fD.2);have HY:=zH (zA r4 (zA g4 fD));have HOV:=zH hov;rw[hov] at a11;clear r4 g4 fD hov
 cases hwt:c2.waits
 · rw[hwt] at a10
   have HWT:=zH hwt;clear hwt;go_wp2_with (refine wpList_store_mid rfl 127 (.tmp 4) (.tmp 77) rfl w.heap.size 0 #[zi 1,zi 0,zi 0,.slice none 0 0,zi 0,zi 0] rfl rfl HTH.out (by kernel_rfl) (by simp[Value.oneCell']) ?_;generalize hws:World.setCells _ _ _ _=ws);have hbut:=But.setCells w.heap.size [zi 1,zi 0,zi 0,.slice none 0 0,zi 0,zi 0] 0 (wd.setCell ⟨A.be,23,none⟩ (zi lb));have hfin:=heap_setCells6 HY.out.2.2.2 (zi 1) (zi 0) (zi 0) (.slice none 0 0) (zi 0) (zi 0);rw[show (wd.setCell ⟨A.be,23,none⟩ (zi lb)).setCells w.heap.size 0 [zi 1,zi 0,zi 0,.slice none 0 0,zi 0,zi 0]=ws from hws] at hbut hfin
   (try simp only[Exit.inBlock,Exit.then])
   refine bodyPost_ret (results_cell_tmp_row rfl _ _ w.heap.size 127 #[zi 1,zi 0,zi 0,.slice none 0 0,zi 0,zi 0] _ _ rfl hfin Tryz.underlying127 rfl (by kernel_rfl)) rfl ?_;have hkd:(if c2.waits then (2:Int) else 1)=1:=by rw[HWT.out];rfl
   rw[HQ.out,hkd];obtain⟨hc2,hdl,hcq,hs,_⟩:=HF.out;obtain⟨q1,q2,q3,q4,_⟩:=HX2.out;obtain⟨r4,g4,fD⟩:=HY.out;have r5:=r4.but fD.1 hbut;have gg:=(((HX.out.2.1.trans q2).trans g4).but (Nat.le_refl _) hbut)
   have hc':({σ2.setC s {c2 with k:=some k'} with looks:=σ2.looks+dl}:St).calls.getD s none=some {c2 with k:=some k'}:=by show (σ2.setC s {c2 with k:=some k'}).calls.getD s none=_;rw[getC_set (lt_of_call hc2),if_pos rfl]
   refine⟨{A2 with vnext:=upF A2.vnext s (.func (.func f2) u2 u3)},.slice none 0 0,rfl,FRow.nil _ _ _,Live.of (s:=s) HL0.out HSW.out r5 gg ⟨q3.bf,q3.mp,q3.mt,fun q _=>by rw[show ({A2 with vnext:=_}:Book).bt=A.bt from q3.bt],fun q _=>by rw[show ({A2 with vnext:=_}:Book).bc=A.bc from q3.bc],q3.bx,q3.vpairs,fun q hq=>(upF_other _ _ hq).trans (congrFun q3.vnext q),fun q _=>congrFun q3.vcall q⟩ (fun q hq=>?_) (fun c' hcc=>?_) (fun hnn=>by have h0:=hc'.symm.trans hnn;cases h0),gg,q3.be⟩
   · show (σ2.setC s _).calls.getD q none=_
     rw[getC_set (lt_of_call hc2),if_neg hq];exact hcq q hq
   · obtain rfl:{c2 with k:=some k'}=c':=Option.some.inj (hc'.symm.trans hcc)
     refine⟨?_,k',rfl,?_⟩
     · show A2.vcall s=ptr (A2.bc s)
       rw[q3.vcall,q3.bc];exact HVC.out
     · have ek:kp {A2 with vnext:=upF A2.vnext s (.func (.func f2) u2 u3)} ({σ2.setC s {c2 with k:=some k'} with looks:=σ2.looks+dl}:St) s=kp A2 σ2 s:=by unfold kp;rw[call_get hc',call_get hc2]
       rw[ek,show ({A2 with vnext:=upF A2.vnext s (.func (.func f2) u2 u3)}:Book).vnext s=.func (.func f2) u2 u3 from upF_same _ _ _];exact (q4.grow g4).soft (hbut.soft fD.1)
 · rw[hwt] at a10
   have HWT:=zH hwt;clear hwt;go_wp2_with (refine wpList_store_mid rfl 127 (.tmp 4) (.tmp 70) rfl w.heap.size 0 #[zi 2,zi 0,zi 0,.slice none 0 0,zi 0,zi 0] rfl rfl HTH.out (by kernel_rfl) (by simp[Value.oneCell']) ?_;generalize hws:World.setCells _ _ _ _=ws);have hbut:=But.setCells w.heap.size [zi 2,zi 0,zi 0,.slice none 0 0,zi 0,zi 0] 0 (wd.setCell ⟨A.be,23,none⟩ (zi lb));have hfin:=heap_setCells6 HY.out.2.2.2 (zi 2) (zi 0) (zi 0) (.slice none 0 0) (zi 0) (zi 0);rw[show (wd.setCell ⟨A.be,23,none⟩ (zi lb)).setCells w.heap.size 0 [zi 2,zi 0,zi 0,.slice none 0 0,zi 0,zi 0]=ws from hws] at hbut hfin
   (try simp only[Exit.inBlock,Exit.then])
   refine bodyPost_ret (results_cell_tmp_row rfl _ _ w.heap.size 127 #[zi 2,zi 0,zi 0,.slice none 0 0,zi 0,zi 0] _ _ rfl hfin Tryz.underlying127 rfl (by kernel_rfl)) rfl ?_;have hkd:(if c2.waits then (2:Int) else 1)=2:=by rw[HWT.out];rfl
   rw[HQ.out,hkd];obtain⟨hc2,hdl,hcq,hs,_⟩:=HF.out;obtain⟨q1,q2,q3,q4,_⟩:=HX2.out;obtain⟨r4,g4,fD⟩:=HY.out;have r5:=r4.but fD.1 hbut;have gg:=(((HX.out.2.1.trans q2).trans g4).but (Nat.le_refl _) hbut)
   have hc':({σ2.setC s {c2 with k:=some k'} with looks:=σ2.looks+dl}:St).calls.getD s none=some {c2 with k:=some k'}:=by show (σ2.setC s {c2 with k:=some k'}).calls.getD s none=_;rw[getC_set (lt_of_call hc2),if_pos rfl]
   refine⟨{A2 with vnext:=upF A2.vnext s (.func (.func f2) u2 u3)},.slice none 0 0,rfl,FRow.nil _ _ _,Live.of (s:=s) HL0.out HSW.out r5 gg ⟨q3.bf,q3.mp,q3.mt,fun q _=>by rw[show ({A2 with vnext:=_}:Book).bt=A.bt from q3.bt],fun q _=>by rw[show ({A2 with vnext:=_}:Book).bc=A.bc from q3.bc],q3.bx,q3.vpairs,fun q hq=>(upF_other _ _ hq).trans (congrFun q3.vnext q),fun q _=>congrFun q3.vcall q⟩ (fun q hq=>?_) (fun c' hcc=>?_) (fun hnn=>by have h0:=hc'.symm.trans hnn;cases h0),gg,q3.be⟩
   · show (σ2.setC s _).calls.getD q none=_
     rw[getC_set (lt_of_call hc2),if_neg hq];exact hcq q hq
   · obtain rfl:{c2 with k:=some k'}=c':=Option.some.inj (hc'.symm.trans hcc)
     refine⟨?_,k',rfl,?_⟩
     · show A2.vcall s=ptr (A2.bc s)
       rw[q3.vcall,q3.bc];exact HVC.out
     · have ek:kp {A2 with vnext:=upF A2.vnext s (.func (.func f2) u2 u3)} ({σ2.setC s {c2 with k:=some k'} with looks:=σ2.looks+dl}:St) s=kp A2 σ2 s:=by unfold kp;rw[call_get hc',call_get hc2]
       rw[ek,show ({A2 with vnext:=upF A2.vnext s (.func (.func f2) u2 u3)}:Book).vnext s=.func (.func f2) u2 u3 from upF_same _ _ _];exact (q4.grow g4).soft (hbut.soft fD.1)
theorem over_tells {A:Book} {σ:St} {w:World} (hR:Rep A σ w) (s link:Nat):
 Calls Tryz.prog 161 #[.pointer (some ⟨A.be,0,none⟩),.pointer (some ⟨A.bt s,0,none⟩),.pointer (some ⟨A.bc s,0,none⟩),.pointer (some ⟨(kp A σ s).x,0,none⟩),zu (link:Int)] w (Tells A w s (σ,.over link)):=by
 have F:=zH (allocs5 hR #[.pointer (some ⟨A.be,0,none⟩)] 32 #[.pointer (some ⟨A.bt s,0,none⟩)] 93 #[.pointer (some ⟨A.bc s,0,none⟩)] 98 #[.pointer (some ⟨(kp A σ s).x,0,none⟩)] 212 #[zu (link:Int)] 22);clear hR;go_enter Tryz.func161,Tryz.ntmps161;go_wp2;go_ret;obtain⟨r1,r2,f0,f1,f2,f3,f4⟩:=F.out;exact⟨A,_,rfl,r1,r2,Stay.refl _ _,_,_,_,_,_,rfl,f0.box,f2.box,f4.box,f1.box,f3.box⟩
variable {A:Book} {σ:St} {w:World}
theorem k_slotE_true (hR:Rep A σ w) (s:Nat) (t:Txn) (ht:σ.txns.getD s none=some t) (link head:Nat) (hcnt:σ.count<4000000000000000000) (hv:VL σ link) (b0 b1 b2 b3 b4 b5:Nat)
 (B0:Box A.L w b0 (.pointer (some ⟨A.be,0,none⟩))) (B1:Box A.L w b1 (zu (link:Int))) (B2:Box A.L w b2 (.pointer (some ⟨(kp A σ s).x,0,none⟩))) (B3:Box A.L w b3 (.pointer (some ⟨A.bt s,0,none⟩))) (B4:Box A.L w b4 (.pointer (some ⟨A.bc s,0,none⟩))) (B5:HeadBox A.L w b5 true head):
 Calls Tryz.prog 159 #[.pointer (some ⟨b0,0,none⟩),.pointer (some ⟨b1,0,none⟩),.pointer (some ⟨b2,0,none⟩),.pointer (some ⟨b3,0,none⟩),.pointer (some ⟨b4,0,none⟩),.pointer (some ⟨b5,0,none⟩)] w (Ran A w s (σ.run s (.slotE true link head))):=by
 have hsl:=hR.sl;obtain⟨hv5,X5,R5⟩:=B5;obtain⟨ha,hn,hcap,rfl,hlen,hcap1,hcap2,hrow⟩:=R5;have c0:=B0.cell;have c1:=B1.cell;have e2:=hR.z2;have HS:=zH (flip (slot_at link 1 1 rfl hv.lo (by have:=hv.hi;omega) hv.u (by omega) w.drew));have HF:=zH (forever_still w.drew);have HL:=zH (store_any hR.drew (wslot link 1) ever (wslot_lt hR hv.lo hv.hi (by omega)) hcnt);have HG:=zG A.L w;have HB:Hid (∀ w1,Rep A (σ.put (wslot link 1) ever) w1→Grow A.L w A.L w1→Calls Tryz.prog 161 #[.pointer (some ⟨A.be,0,none⟩),.pointer (some ⟨A.bt s,0,none⟩),.pointer (some ⟨A.bc s,0,none⟩),.pointer (some ⟨(kp A σ s).x,0,none⟩),zu (link:Int)] w1 (Tells A w1 s (σ.put (wslot link 1) ever,.over link))∧w1.cell? ⟨b0,0,none⟩=some (.pointer (some ⟨A.be,0,none⟩))∧w1.cell? ⟨b1,0,none⟩=some (zu (link:Int))∧w1.cell? ⟨b2,0,none⟩=some (.pointer (some ⟨(kp A σ s).x,0,none⟩))∧w1.cell? ⟨b3,0,none⟩=some (.pointer (some ⟨A.bt s,0,none⟩))∧w1.cell? ⟨b4,0,none⟩=some (.pointer (some ⟨A.bc s,0,none⟩))):=
  fun w1 q g=>⟨over_tells q s link,(B0.grow g).cell,(B1.grow g).cell,(B2.grow g).cell,(B3.grow g).cell,(B4.grow g).cell⟩
 have hrun:σ.run s (.slotE true link head)=(σ.put (wslot link 1) ever,some (.over link)):=rfl;rw[hrun];clear hR ht hcnt hv B0 B1 B2 B3 B4 X5 hrun hsl hlen hcap1 hcap2 hrow;go_enter Tryz.func159,Tryz.ntmps159;go_wp2_with fail;refine wp_region_still_tail 7 (by kernel_rfl) (by kernel_rfl) ?_;simp only[zta,ztb,ztc,ztd]
 repeat still_step
 still_call HS.out
 still_call HF.out
 refine wpStill_nil ?_;change wpList _ _ _ _ _ w.drew;generalize w.drew=wd at*;go_wp2_with (first|(go_at_call 62;refine HL.out.mono ?_;rintro e w1 ⟨rfl,q1,q2⟩;have g1:=HG.out.trans q2;obtain⟨hf,d0,d1,d2,d3,d4⟩:=HB.out w1 q1 g1;have HQ:=zH (zA hf g1);clear q1 q2 g1 hf)|(go_at_call 161;refine HQ.out.1.mono ?_;rintro e w2 ⟨A2,v,rfl,p1,p2,p3,p4⟩));go_ret;exact⟨A2,v,rfl,p1,HQ.out.2.trans p2,p3,p4⟩
theorem k_slotE_false (hR:Rep A σ w) (s:Nat) (t:Txn) (ht:σ.txns.getD s none=some t) (link head:Nat) (hcnt:σ.count<4000000000000000000) (hv:VL σ link) (b0 b1 b2 b3 b4 b5:Nat)
 (B0:Box A.L w b0 (.pointer (some ⟨A.be,0,none⟩))) (B1:Box A.L w b1 (zu (link:Int))) (B2:Box A.L w b2 (.pointer none)) (B3:Box A.L w b3 (.pointer (some ⟨A.bt s,0,none⟩))) (B4:Box A.L w b4 (.pointer (some ⟨A.bc s,0,none⟩))) (B5:HeadBox A.L w b5 false head):
 Calls Tryz.prog 159 #[.pointer (some ⟨b0,0,none⟩),.pointer (some ⟨b1,0,none⟩),.pointer (some ⟨b2,0,none⟩),.pointer (some ⟨b3,0,none⟩),.pointer (some ⟨b4,0,none⟩),.pointer (some ⟨b5,0,none⟩)] w (Ran A w s (σ.run s (.slotE false link head))):=by
 have hsl:=hR.sl;obtain⟨hv5,X5,R5⟩:=B5;obtain⟨ha,hn,hcap,rfl,hlen,hcap1,hcap2,hrow⟩:=R5;have c0:=B0.cell;have c1:=B1.cell;have e2:=hR.z2;have HS:=zH (flip (slot_at link 1 1 rfl hv.lo (by have:=hv.hi;omega) hv.u (by omega) w.drew));have HF:=zH (forever_still w.drew);have HL:=zH (store_any hR.drew (wslot link 1) ever (wslot_lt hR hv.lo hv.hi (by omega)) hcnt);have HG:=zG A.L w;have hn1:hn=1:=by simpa using hlen.symm
 subst hn1;obtain⟨hg,hoff,rfl,hlg,hltg,hcs⟩:=hrow.resolve_left (by omega);have h0:w.cell? ⟨hg,hoff,none⟩=some (zu (head:Int)):=hcs 0 (by omega);have HB:Hid (∀ w1,Rep A (σ.put (wslot link 1) ever) w1→Grow A.L w A.L w1→Calls Tryz.prog 160 #[.pointer (some ⟨A.be,0,none⟩),.pointer (some ⟨A.bt s,0,none⟩),.pointer (some ⟨A.bc s,0,none⟩),zu (link:Int),zu (head:Int)] w1.drew (Tells A w1.drew s (σ.put (wslot link 1) ever,.push link head))∧w1.cell? ⟨b0,0,none⟩=some (.pointer (some ⟨A.be,0,none⟩))∧w1.cell? ⟨b1,0,none⟩=some (zu (link:Int))∧w1.cell? ⟨b2,0,none⟩=some (.pointer none)∧w1.cell? ⟨b3,0,none⟩=some (.pointer (some ⟨A.bt s,0,none⟩))∧w1.cell? ⟨b4,0,none⟩=some (.pointer (some ⟨A.bc s,0,none⟩))∧w1.cell? ⟨b5,0,none⟩=some (.slice (some ⟨hg,hoff,none⟩) 1 hcap)∧w1.cell? ⟨hg,hoff,none⟩=some (zu (head:Int))):=
  fun w1 q g=>⟨push_any q.drew s link head,(B0.grow g).cell,(B1.grow g).cell,(B2.grow g).cell,(B3.grow g).cell,(B4.grow g).cell,(X5.grow g).cell,(World.cell?_of_block (w:=w) (a:=⟨hg,hoff,none⟩) (g.block hg hltg hlg)).trans h0⟩
 have hrun:σ.run s (.slotE false link head)=(σ.put (wslot link 1) ever,some (.push link head)):=rfl;rw[hrun];clear hR ht hcnt hv B0 B1 B2 B3 B4 X5 hrun hsl hlen hcap1 hcap2 hrow hcs h0;go_enter Tryz.func159,Tryz.ntmps159;go_wp2_with fail;refine wp_region_still_tail 7 (by kernel_rfl) (by kernel_rfl) ?_;simp only[zta,ztb,ztc,ztd]
 repeat still_step
 still_call HS.out
 still_call HF.out
 refine wpStill_nil ?_;change wpList _ _ _ _ _ w.drew;generalize w.drew=wd at*;go_wp2_with (go_at_call 62;refine HL.out.mono ?_;rintro e w1 ⟨rfl,q1,q2⟩;have g1:=HG.out.trans q2;obtain⟨hf,d0,d1,d2,d3,d4,d5,d6⟩:=HB.out w1 q1 g1;have HQ:=zH (zA hf (g1.trans (Grow.drew _ _)));clear q1 q2 g1 hf);refine wp_region_still_tail 7 (by kernel_rfl) (by kernel_rfl) ?_;simp only[zta,ztb,ztc,ztd]
 repeat still_step
 refine wpStill_nil ?_;change wpList _ _ _ _ _ w1.drew;generalize w1.drew=wd1 at*;go_wp2_with (go_at_call 160;refine HQ.out.1.mono ?_;rintro e w2 ⟨A2,v,rfl,p1,p2,p3,p4⟩);go_ret;exact⟨A2,v,rfl,p1,HQ.out.2.trans p2,p3,p4⟩
theorem k_slotE (hR:Rep A σ w) (s:Nat) (t:Txn) (ht:σ.txns.getD s none=some t) (x:Bool) (link head:Nat) (hcnt:σ.count<4000000000000000000) (hv:VL σ link) (b0 b1 b2 b3 b4 b5:Nat)
 (B0:Box A.L w b0 (.pointer (some ⟨A.be,0,none⟩))) (B1:Box A.L w b1 (zu (link:Int))) (B2:Box A.L w b2 ((kp A σ s).xo x)) (B3:Box A.L w b3 (.pointer (some ⟨A.bt s,0,none⟩))) (B4:Box A.L w b4 (.pointer (some ⟨A.bc s,0,none⟩))) (B5:HeadBox A.L w b5 x head):
 Calls Tryz.prog 159 #[.pointer (some ⟨b0,0,none⟩),.pointer (some ⟨b1,0,none⟩),.pointer (some ⟨b2,0,none⟩),.pointer (some ⟨b3,0,none⟩),.pointer (some ⟨b4,0,none⟩),.pointer (some ⟨b5,0,none⟩)] w (Ran A w s (σ.run s (.slotE x link head))):=by
 cases x
 · exact k_slotE_false hR s t ht link head hcnt hv b0 b1 b2 b3 b4 b5 B0 B1 B2 B3 B4 B5
 · exact k_slotE_true hR s t ht link head hcnt hv b0 b1 b2 b3 b4 b5 B0 B1 B2 B3 B4 B5
theorem k_over (hR:Rep A σ w) (s:Nat) (c:Cal) (hc:σ.calls.getD s none=some c) (link:Nat) (hk:c.op.key<64) (hcnt:σ.count<4000000000000000000)
 (b0 b1 b2 b3 b4:Nat) (B0:Box A.L w b0 (.pointer (some ⟨A.be,0,none⟩))) (B1:Box A.L w b1 (.pointer (some ⟨A.bc s,0,none⟩))) (B2:Box A.L w b2 (zu (link:Int))) (B3:Box A.L w b3 (.pointer (some ⟨A.bt s,0,none⟩))) (B4:Box A.L w b4 (.pointer (some ⟨(kp A σ s).x,0,none⟩))):
 Calls Tryz.prog 183 #[.pointer (some ⟨b0,0,none⟩),.pointer (some ⟨b1,0,none⟩),.pointer (some ⟨b2,0,none⟩),.pointer (some ⟨b3,0,none⟩),.pointer (some ⟨b4,0,none⟩)] w (Ran A w s (σ.run s (.over link))):=by
 have c0:=B0.cell;have c1:=B1.cell;have e2:=hR.z2;have k1:w.cell? ⟨A.bc s,1,none⟩=some (zi (c.op.key:Int)):=hR.call hc 1 rfl;have n1:IntKind.i64.wrap (9+(c.op.key:Int))=9+(c.op.key:Int):=by rw[IntKind.wrap_i64];omega
 have HL:Hid (∀ w',Rep A σ w'→Calls Tryz.prog 58 #[.pointer (some ⟨A.ba,0,none⟩),zi (9+(c.op.key:Int))] w' (Did A w' σ.tick (zu (σ.word (9+c.op.key):Int)))):=fun w' r=>load_i r (9+c.op.key) (9+(c.op.key:Int)) (by omega) (by rw[r.nw];omega) hcnt
 have HRd:Hid (Rep A σ w.drew):=hR.drew;have x0:=World.new_ne w _ c0;have x1:=World.new_ne w _ c1;have x2:=World.new_ne w _ e2;have x3:=World.new_ne w _ k1;have HKK:Hid (∀ w',Rep A σ.tick w'→Grow A.L w A.L w'→w'.cell? ⟨b0,0,none⟩=some (.pointer (some ⟨A.be,0,none⟩))∧w'.cell? ⟨b1,0,none⟩=some (.pointer (some ⟨A.bc s,0,none⟩))∧w'.cell? ⟨A.be,2,none⟩=some (.pointer (some ⟨A.ba,0,none⟩))∧w'.cell? ⟨A.bc s,1,none⟩=some (zi (c.op.key:Int))):=fun w' r g=>⟨(B0.grow g).cell,(B1.grow g).cell,r.eng 2 rfl,r.call hc 1 rfl⟩
 have HFX:Hid (Fix A.L (w.drew.alloc (.cells #[zu 0] 22)) w.heap.size (.cells #[zu 0] 22)):=fix_next hR.drew.mem.fresh _ rfl;have hl0:A.L w.heap.size=none:=hR.mem.fresh _ (Nat.le_refl _);have HKS:Hid (∀ w',Rep A σ.tick w'→Grow A.L w A.L w'→(w'.setCell ⟨w.heap.size,0,none⟩ (zu (σ.word (9+c.op.key):Int))).cell? ⟨b0,0,none⟩=some (.pointer (some ⟨A.be,0,none⟩))∧(w'.setCell ⟨w.heap.size,0,none⟩ (zu (σ.word (9+c.op.key):Int))).cell? ⟨b1,0,none⟩=some (.pointer (some ⟨A.bc s,0,none⟩))∧(w'.setCell ⟨w.heap.size,0,none⟩ (zu (σ.word (9+c.op.key):Int))).cell? ⟨A.be,2,none⟩=some (.pointer (some ⟨A.ba,0,none⟩))∧(w'.setCell ⟨w.heap.size,0,none⟩ (zu (σ.word (9+c.op.key):Int))).cell? ⟨A.bc s,1,none⟩=some (zi (c.op.key:Int))):=fun w' r g=>by
  obtain⟨r',g'⟩:=hR.setNew r g rfl rfl (a:=⟨w.heap.size,0,none⟩) (Nat.le_refl _) hl0 (zu (σ.word (9+c.op.key):Int));exact HKK.out _ r' g'
 have hrun:σ.run s (.over link)=(σ.tick,some (.overN link (σ.word (9+c.op.key)))):=by simp only[St.run,call_get hc]
 rw[hrun];have HG:=zG A.L w;have HB:=zH (zA B0 (zA B1 (zA B2 (zA B3 B4))));have HSET:Hid (∀ w',Rep A σ.tick w'→Grow A.L w A.L w'→Rep A σ.tick (w'.setCell ⟨w.heap.size,0,none⟩ (zu (σ.word (9+c.op.key):Int)))∧Grow A.L w A.L (w'.setCell ⟨w.heap.size,0,none⟩ (zu (σ.word (9+c.op.key):Int)))):=fun w' r g=>hR.setNew r g rfl rfl (a:=⟨w.heap.size,0,none⟩) (Nat.le_refl _) hl0 (zu (σ.word (9+c.op.key):Int))
 clear hl0;clear hR hc hcnt B0 B1 B2 B3 B4 hrun hk;generalize σ.word (9+c.op.key)=hd at*;generalize c.op.key=key at*;go_enter Tryz.func183,Tryz.ntmps183;go_wp2_with fail
 go_region_held3 (fun w'=>w'.cell? ⟨b0,0,none⟩=some (.pointer (some ⟨A.be,0,none⟩))∧w'.cell? ⟨b1,0,none⟩=some (.pointer (some ⟨A.bc s,0,none⟩))∧w'.cell? ⟨A.be,2,none⟩=some (.pointer (some ⟨A.ba,0,none⟩))∧w'.cell? ⟨A.bc s,1,none⟩=some (zi (key:Int)))
  (first|exact⟨c0,c1,e2,k1⟩|assumption|go_keep|exact HKK.out _ (by assumption) (by assumption)|exact HKK.out _ (Rep.alloc (by assumption) _) (Grow.trans (by assumption) (Grow.alloc _ _ _))|exact HKS.out _ (by assumption) (by assumption))
  (first|(go_at_call 58;refine (HL.out _ HRd.out).mono ?_;rintro e w1 ⟨rfl,q1,q2⟩;have q4:=HG.out.trans q2)|(go_at_call 58;refine (HL.out _ (HRd.out.alloc _)).mono ?_;rintro e w1 ⟨rfl,q1,q2⟩;have q4:=(HG.out.trans (Grow.alloc _ _ _)).trans q2;have fx:=HFX.out.grow q2;have nb:=fx.cell 0 (v:=zu 0) rfl;have nz:=fx.frozen 0;have FX:=zH fx;clear fx))
 · go_wp2_with fail
   go_ret;obtain⟨r3,g3,f0⟩:=allocs1 q1 #[zu (hd:Int)] 22;have g:=q4.trans g3;obtain⟨B0,B1,B2,B3,B4⟩:=HB.out;exact⟨A,_,rfl,r3,g,Stay.refl _ _,_,_,_,_,_,_,rfl,B0.grow g,B2.grow g,f0.box,B1.grow g,B3.grow g,B4.grow g⟩
 · go_wp2_with fail
   go_ret;obtain⟨r3,g⟩:=HSET.out _ q1 q4;obtain⟨B0,B1,B2,B3,B4⟩:=HB.out;exact⟨A,_,rfl,r3,g,Stay.refl _ _,_,_,_,_,_,_,rfl,B0.grow g,B2.grow g,(FX.out.setSame _).box,B1.grow g,B3.grow g,B4.grow g⟩
end Go.Proofs.YtpkenfnmkpmapaaGreat.Em
