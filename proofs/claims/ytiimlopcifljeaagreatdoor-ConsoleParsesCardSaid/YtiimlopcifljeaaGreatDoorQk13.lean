import Derived.Test.YtiimlopcifljeaaGreatDoorQk11
import Derived.Test.YtiimlopcifljeaaGreatDoorQk9
import Derived.Laws.MakeOwn
namespace Go.Proofs.YtiimlopcifljeaaGreatDoor.Em
open Go.ChangeShapes Go.WideShapes Go.ChangeAt Go.RowKit En
set_option linter.unusedVariables false
set_option linter.unusedSimpArgs false
set_option maxRecDepth 100000
set_option maxHeartbeats 1600000
theorem opOk_true (o:En.Op) (h:opOk o=true) (w:World):Calls Tryz.prog 130 #[.agg #[zi (o.kind:Int),zi (o.key:Int),zi (o.hi:Int),zi (o.value:Int)]] w fun e w'=>e=.returned (.bool true)∧Below w.heap.size w w':=by
 have hb:Below w.heap.size w (w.alloc (.cells #[zi (o.kind:Int),zi (o.key:Int),zi (o.hi:Int),zi (o.value:Int)] 166)):=(Below.refl _ _).alloc (Nat.le_refl _) _;have HB:=zH hb;clear hb;obtain⟨kind,key,hi,value⟩:=o;unfold opOk at h;simp only at h HB ⊢;have hk:kind=1∨kind=2∨kind=3∨kind=4∨kind=5∨kind=6∨kind=7:=by
  by_cases h1:kind=1;exact .inl h1
  by_cases h2:kind=2;exact .inr (.inl h2)
  by_cases h3:kind=3;exact .inr (.inr (.inl h3))
  by_cases h4:kind=4;exact .inr (.inr (.inr (.inl h4)))
  by_cases h5:kind=5;exact .inr (.inr (.inr (.inr (.inl h5))))
  by_cases h6:kind=6;exact .inr (.inr (.inr (.inr (.inr (.inl h6)))))
  by_cases h7:kind=7;exact .inr (.inr (.inr (.inr (.inr (.inr h7)))))
  simp[h1,h2,h3,h4,h5,h6,h7] at h
 rcases hk with rfl|rfl|rfl|rfl|rfl|rfl|rfl
 · simp only[Bool.and_eq_true,decide_eq_true_eq,beq_iff_eq] at h
   have hx:=h;have a1:decide ((key:Int)≤(63:Int))=true:=by simp;omega
   have a2:((key:Int)≤(63:Int))=True:=by simp;omega
   have b1:((hi:Int)==0)=true:=by simp;omega
   have b2:((hi:Int)=0)=True:=by simp;omega
   have c1:((value:Int)==0)=true:=by simp;omega
   have c2:((value:Int)=0)=True:=by simp;omega
   clear h hx;go_enter Tryz.func130,Tryz.ntmps130;go_wp2;go_ret;exact⟨rfl,HB.out⟩
 · simp only[Bool.and_eq_true,decide_eq_true_eq,beq_iff_eq] at h
   have hx:=h;have a1:decide ((key:Int)≤(63:Int))=true:=by simp;omega
   have a2:((key:Int)≤(63:Int))=True:=by simp;omega
   have b1:((hi:Int)==0)=true:=by simp;omega
   have b2:((hi:Int)=0)=True:=by simp;omega
   have c1:decide ((value:Int)≤(65535:Int))=true:=by simp;omega
   have c2:((value:Int)≤(65535:Int))=True:=by simp;omega
   clear h hx;go_enter Tryz.func130,Tryz.ntmps130;go_wp2;go_ret;exact⟨rfl,HB.out⟩
 · simp only[Bool.and_eq_true,decide_eq_true_eq,beq_iff_eq] at h
   have hx:=h;have a1:decide ((key:Int)≤(63:Int))=true:=by simp;omega
   have a2:((key:Int)≤(63:Int))=True:=by simp;omega
   have b1:((hi:Int)==0)=true:=by simp;omega
   have b2:((hi:Int)=0)=True:=by simp;omega
   have c1:decide ((value:Int)≤(65535:Int))=true:=by simp;omega
   have c2:((value:Int)≤(65535:Int))=True:=by simp;omega
   clear h hx;go_enter Tryz.func130,Tryz.ntmps130;go_wp2;go_ret;exact⟨rfl,HB.out⟩
 · simp only[Bool.and_eq_true,decide_eq_true_eq,beq_iff_eq] at h
   have hx:=h;have a1:decide ((key:Int)≤(63:Int))=true:=by simp;omega
   have a2:((key:Int)≤(63:Int))=True:=by simp;omega
   have b1:((hi:Int)==0)=true:=by simp;omega
   have b2:((hi:Int)=0)=True:=by simp;omega
   have c1:((value:Int)==0)=true:=by simp;omega
   have c2:((value:Int)=0)=True:=by simp;omega
   clear h hx;go_enter Tryz.func130,Tryz.ntmps130;go_wp2;go_ret;exact⟨rfl,HB.out⟩
 · simp only[Bool.and_eq_true,decide_eq_true_eq,beq_iff_eq] at h
   have hx:=h;have a1:decide ((key:Int)≤(63:Int))=true:=by simp;omega
   have a2:((key:Int)≤(63:Int))=True:=by simp;omega
   have b1:decide ((key:Int)≤(hi:Int))=true:=by simp;omega
   have b2:((key:Int)≤(hi:Int))=True:=by simp;omega
   have e1:decide ((hi:Int)≤(63:Int))=true:=by simp;omega
   have e2:((hi:Int)≤(63:Int))=True:=by simp;omega
   have c1:((value:Int)==0)=true:=by simp;omega
   have c2:((value:Int)=0)=True:=by simp;omega
   clear h hx;go_enter Tryz.func130,Tryz.ntmps130;go_wp2;go_ret;exact⟨rfl,HB.out⟩
 · simp only[Bool.and_eq_true,decide_eq_true_eq,beq_iff_eq] at h
   have hx:=h;have a1:((key:Int)==0)=true:=by simp;omega
   have a2:((key:Int)=0)=True:=by simp;omega
   have b1:((hi:Int)==0)=true:=by simp;omega
   have b2:((hi:Int)=0)=True:=by simp;omega
   have c1:((value:Int)==0)=true:=by simp;omega
   have c2:((value:Int)=0)=True:=by simp;omega
   clear h hx;go_enter Tryz.func130,Tryz.ntmps130;go_wp2;go_ret;exact⟨rfl,HB.out⟩
 · simp only[Bool.and_eq_true,decide_eq_true_eq,beq_iff_eq] at h
   have hx:=h;have a1:((key:Int)==0)=true:=by simp;omega
   have a2:((key:Int)=0)=True:=by simp;omega
   have b1:((hi:Int)==0)=true:=by simp;omega
   have b2:((hi:Int)=0)=True:=by simp;omega
   have c1:((value:Int)==0)=true:=by simp;omega
   have c2:((value:Int)=0)=True:=by simp;omega
   clear h hx;go_enter Tryz.func130,Tryz.ntmps130;go_wp2;go_ret;exact⟨rfl,HB.out⟩
theorem ends_op (o:En.Op) (w:World):Calls Tryz.prog 131 #[.agg #[zi (o.kind:Int),zi (o.key:Int),zi (o.hi:Int),zi (o.value:Int)]] w fun e w'=>e=.returned (.bool (opEnds o))∧Below w.heap.size w w':=by
 have hb:Below w.heap.size w (w.alloc (.cells #[zi (o.kind:Int),zi (o.key:Int),zi (o.hi:Int),zi (o.value:Int)] 166)):=(Below.refl _ _).alloc (Nat.le_refl _) _;have HB:=zH hb;clear hb;have he:opEnds o=(decide (o.kind=6)||decide (o.kind=7)):=by unfold opEnds;by_cases h1:o.kind=6<;>by_cases h2:o.kind=7<;>simp[h1,h2]
 rw[he];clear he;generalize o.kind=kd at*
 by_cases h6:kd=6
 · subst h6
   go_enter Tryz.func131,Tryz.ntmps131;go_wp2;go_ret;exact⟨rfl,HB.out⟩
 · have a1:((kd:Int)==6)=false:=by simp;omega
   have a2:((kd:Int)=6)=False:=by simp;omega
   by_cases h7:kd=7
   · have b1:((kd:Int)==7)=true:=by simp;omega
     have b2:((kd:Int)=7)=True:=by simp;omega
     have HX:=zH (zA h6 h7);clear h6 h7;go_enter Tryz.func131,Tryz.ntmps131;go_wp2;go_ret;exact⟨by simp[HX.out.1,HX.out.2],HB.out⟩
   · have b1:((kd:Int)==7)=false:=by simp;omega
     have b2:((kd:Int)=7)=False:=by simp;omega
     have HX:=zH (zA h6 h7);clear h6 h7;go_enter Tryz.func131,Tryz.ntmps131;go_wp2;go_ret;exact⟨by simp[HX.out.1,HX.out.2],HB.out⟩
theorem levelOk (l:Nat) (h1:1≤l) (h2:l≤3) (w:World):Calls Tryz.prog 65 #[zi (l:Int)] w fun e w'=>e=.returned (.bool true)∧w=w':=by
 have d1:decide ((1:Int)≤(l:Int))=true:=by simp;omega
 have d2:decide ((l:Int)≤3)=true:=by simp;omega
 have e1:((1:Int)≤(l:Int))=True:=by simp;omega
 have e2:((l:Int)≤3)=True:=by simp;omega
 have g1:(1≤l)=True:=by simp;omega
 have g2:(l≤3)=True:=by simp;omega
 have g3:(0<l)=True:=by simp;omega
 clear h1 h2;go_enter Tryz.func65,Tryz.ntmps65;go_wp2;go_ret;exact⟨rfl,rfl⟩
theorem step_over {A:Book} {σ:St} {w:World} (hL:Live A σ w) (s:Nat) (hs:s<8) (t:Txn) (ht:σ.txns.getD s none=some t) (c:Cal) (hc:σ.calls.getD s none=some c) (k:K) (hk:c.k=some k) (hcnt:σ.count<3000000000000000000) (σ2:St) (ok:Option K) (hrun:(σ.setC s {c with waits:=false}).run s k=(σ2,ok)) (HS:RunsTo (σ.setC s {c with waits:=false}) s k) (c2:Cal) (hc2:σ2.calls.getD s none=some c2) (dl:Nat) (hdl:σ2.count=σ.count+dl) (hd1:dl<1000000) (hlk:σ2.looks<1000000000000000000) (hcq:∀ q,q≠s→σ2.calls.getD q none=σ.calls.getD q none) (hok:ok=none) (hw:c2.waits=false) (hov:c2.over=true) (hpr:c2.r.pairs=[]) (hro:c2.r.over≠0):
 Calls Tryz.prog 92 #[.pointer (some ⟨A.be,0,none⟩),zi (s:Int)] w (Stepped A w ({σ2.setC s {c2 with k:=ok} with looks:=σ2.looks+dl,calls:=(σ2.setC s {c2 with k:=ok}).calls.set s none,txns:=σ2.txns.set s none}) 3 c2.r):=by
 have HSW:Hid (σ2.sw=σ.sw∧σ2.cut=σ.cut):=zH (by have h:=run_sw (σ.setC s {c with waits:=false}) s k;rw[hrun] at h;exact h);obtain⟨Q,hQ⟩:∃ Q,Q=Stepped A w ({σ2.setC s {c2 with k:=ok} with looks:=σ2.looks+dl,calls:=(σ2.setC s {c2 with k:=ok}).calls.set s none,txns:=σ2.txns.set s none}) 3 c2.r:=⟨_,rfl⟩
 rw[←hQ];have HQ:=zH hQ;clear hQ;obtain⟨r0,g0,fl,fh⟩:=hL.rep.newTmp (.cells #[zi 0,zi 0,zi 0,.slice none 0 0,zi 0,zi 0] 193);obtain⟨hvc,k0,hk0,hkr⟩:=hL.call s hs c hc;obtain rfl:k=k0:=by rw[hk] at hk0;exact Option.some.inj hk0
 obtain⟨fv,fb,fc,hvn,hent⟩:=hkr.enter;have hsok:=zH (sessionOk s hs);have b1:(s:Int)<8:=by omega
 have b0:(0:Int)≤(s:Int):=by omega
 have v0:(w.alloc (.cells #[zi 0,zi 0,zi 0,.slice none 0 0,zi 0,zi 0] 193)).cell? ⟨A.be,13+s,none⟩=some (.pointer (some ⟨A.bc s,0,none⟩)):=by rw[←show A.vcall s=.pointer (some ⟨A.bc s,0,none⟩) from hvc];exact r0.eng (13+s) (engCs_call (A.tmp w.heap.size) σ hs)
 have v1:(w.alloc (.cells #[zi 0,zi 0,zi 0,.slice none 0 0,zi 0,zi 0] 193)).cell? ⟨A.be,5+s,none⟩=some (.pointer (some ⟨A.bt s,0,none⟩)):=by
  have h:=r0.eng (5+s) (engCs_txn (A.tmp w.heap.size) σ hs);have e:(A.tmp w.heap.size).tp σ s=.pointer (some ⟨A.bt s,0,none⟩):=by unfold Book.tp;rw[ht];rfl
  rw[e] at h;exact h
 obtain⟨σ1,hσ1⟩:∃ σ1,σ1=σ.setC s {c with waits:=false}:=⟨_,rfl⟩
 rw[←hσ1] at hrun HS;have hc1:σ1.calls.getD s none=some {c with waits:=false}:=by rw[hσ1,getC_set (lt_of_call hc),if_pos rfl]
 have hkp:kp A σ1 s=kp A σ s:=by unfold kp;rw[call_get hc1,call_get hc]
 have H5:Hid (∀ n w5,(w.alloc (.cells #[zi 0,zi 0,zi 0,.slice none 0 0,zi 0,zi 0] 193)).drewN n=w5→w5.cell? ⟨A.bc s,10,none⟩=some (.bool c.waits)∧w5.frozen? ⟨A.bc s,10,none⟩=false∧∀ w6,w5.setCell ⟨A.bc s,10,none⟩ (.bool false)=w6→w6.cell? ⟨A.be,2,none⟩=some (.pointer (some ⟨A.ba,0,none⟩))∧w6.cell? ⟨A.bc s,4,none⟩=some (.func (.func fv) fb fc)∧Calls Tryz.prog 112 #[.pointer (some ⟨A.ba,0,none⟩)] w6 (fun e w'=>e=.returned (zi (σ.count:Int))∧w6=w')∧Calls Tryz.prog fv (fb++fc) w6 (Ran (A.tmp w.heap.size) w6 s (σ2,ok))∧Grow A.L w (A.tmp w.heap.size).L w6∧((A.tmp w.heap.size).L w.heap.size=some .tmp∧w6.heap[w.heap.size]? =some (.cells #[zi 0,zi 0,zi 0,.slice none 0 0,zi 0,zi 0] 193))):=by
  rintro n w5 rfl;have r5:=r0.drewN n;refine⟨r5.call hc 10 rfl,r5.callF hc 10,?_⟩;rintro w6 rfl;obtain⟨r6,g6⟩:=r5.setCall hc {c with waits:=false} 10 (.bool false) rfl rfl;have g56:=(Grow.drewN (A.tmp w.heap.size).L (w.alloc (.cells #[zi 0,zi 0,zi 0,.slice none 0 0,zi 0,zi 0] 193)) n).trans g6;have gg:=g0.trans g56;rw[←hσ1] at r6;have h4:_=some (A.vnext s):=r6.call hc1 4 rfl;rw[hvn] at h4;have h4':(((w.alloc (.cells #[zi 0,zi 0,zi 0,.slice none 0 0,zi 0,zi 0] 193)).drewN n).setCell ⟨A.bc s,10,none⟩ (.bool false)).cell? ⟨A.bc s,4,none⟩=some (.func (.func fv) fb fc):=h4;have hk6:=(hkr.grow gg)
  rw[hvn,←hkp] at hk6;have hS:=HS (A.tmp w.heap.size) _ fv fb fc r6 hL.mp (hL.mt s) hk6;rw[hrun] at hS;have hcn:=count_any r6 (by rw[hσ1];exact Nat.lt_trans hcnt (by decide));have hcc:σ1.count=σ.count:=by rw[hσ1];rfl
  rw[hcc] at hcn;exact⟨r6.eng 2 rfl,h4',hcn,hS,gg,tmp_grow ⟨fl,fh⟩ g56⟩
 have HL0:=zH hL;have HF:=zH (zA hc2 (zA hdl (zA hcq (zA hs hlk))));have n1:IntKind.i64.wrap (((σ.count+dl:Nat):Int) - (σ.count:Int))=(dl:Int):=by rw[IntKind.wrap_i64];omega
 have n2:IntKind.i64.wrap ((σ2.looks:Int)+(dl:Int))=((σ2.looks+dl:Nat):Int):=by rw[IntKind.wrap_i64];omega
 have H7 : Hid (∀ A2 w2 v A3, A3 = { A2 with vnext := upF A2.vnext s v } → Rep A2 σ2 w2 → Stay (A.tmp w.heap.size) A2 s → w2.cell? ⟨A.bc s, 4, none⟩ = some (A2.vnext s) ∧ w2.frozen? ⟨A.bc s, 4, none⟩ = false ∧ ∀ w3, w2.setCell ⟨A.bc s, 4, none⟩ v = w3 → w3.cell? ⟨A.be, 23, none⟩ = some (zi (σ2.looks : Int)) ∧ w3.frozen? ⟨A.be, 23, none⟩ = false ∧ w3.cell? ⟨A.be, 2, none⟩ = some (.pointer (some ⟨A.ba, 0, none⟩)) ∧ Calls Tryz.prog 112 #[.pointer (some ⟨A.ba, 0, none⟩)] w3.drew (fun e w' => e = .returned (zi ((σ.count + dl : Nat) : Int)) ∧ w' = w3.drew) ∧
     ∀ w4,w3.drew.setCell ⟨A.be,23,none⟩ (zi ((σ2.looks+dl:Nat):Int))=w4→Rep A3 ({σ2.setC s {c2 with k:=ok} with looks:=σ2.looks+dl}) w4∧Grow A2.L w2 A2.L w4∧w4.cell? ⟨A.bc s,10,none⟩=some (.bool c2.waits)∧w4.cell? ⟨A.bc s,11,none⟩=some (.bool c2.over)):=by
  intro A2 w2 v A3 hA3 q st;have ebc:A2.bc=A.bc:=st.bc;have ebe:A2.be=A.be:=st.be;have eba:A2.ba=A.ba:=st.ba;have x4:=q.call hc2 4 (v:=A2.vnext s) rfl;have z4:=q.callF hc2 4;rw[ebc] at x4 z4;refine⟨x4,z4,?_⟩;rintro w3 rfl;obtain⟨r3,g3⟩:=q.nextSet hc2 v ok;rw[←hA3,ebc] at r3;rw[ebc] at g3;have e3:A3.be=A.be:=by rw[hA3];exact ebe
  have e3a:A3.ba=A.ba:=by rw[hA3];exact eba
  have e3c:A3.bc=A.bc:=by rw[hA3];exact ebc
  have e3L:A3.L=A2.L:=by rw[hA3]
  have y23:=r3.eng 23 (v:=zi (σ2.looks:Int)) rfl;have z23:=r3.engF 23;have y2:=r3.eng 2 (v:=.pointer (some ⟨A3.ba,0,none⟩)) rfl;have hcn:=flip (count_any r3.drew (by show σ2.count<_;omega));rw[e3] at y23 z23 y2;rw[e3a] at hcn y2;rw[show (σ2.setC s {c2 with k:=ok}).count=σ.count+dl from hdl] at hcn;refine⟨y23,z23,y2,hcn,?_⟩;intro w4 hw4;obtain⟨r4,g4⟩:=r3.drew.looksSet (σ2.looks+dl);rw[e3,hw4] at r4 g4;rw[e3L] at g4;have hc4:({σ2.setC s {c2 with k:=ok} with looks:=σ2.looks+dl}:St).calls.getD s none=some {c2 with k:=ok}:=by show (σ2.setC s {c2 with k:=ok}).calls.getD s none=_;rw[getC_set (lt_of_call hc2),if_pos rfl]
  have a10:=r4.call hc4 10 (v:=.bool c2.waits) rfl;have a11:=r4.call hc4 11 (v:=.bool c2.over) rfl;rw[e3c] at a10 a11;exact⟨r4,(g3.trans (Grow.drew _ _)).trans g4,a10,a11⟩
 have hwx:(w.alloc (.cells #[zi 0,zi 0,zi 0,.slice none 0 0,zi 0,zi 0] 193)).cell? ⟨A.bc s,10,none⟩=some (.bool c.waits):=r0.call hc 10 rfl;have HVC:=zH hvc;clear hL ht hc hk hcnt hrun HS hc2 hdl hd1 hlk hcq r0 g0 fl fh hvc hk0 hkr hvn hσ1 hc1 hkp hs;generalize (σ.count:Int)=ca at*;generalize ((σ.count+dl:Nat):Int)=cb at*;generalize ((σ2.looks+dl:Nat):Int)=lb at*;go_enter Tryz.func92,Tryz.ntmps92;go_wp2_with (go_at_call 64;refine (hsok.out _).mono ?_;rintro e w' ⟨rfl,rfl⟩);generalize hw0:w.alloc _=w0 at*
 go_quiet (fail)
 generalize hw5:w0.drewN _=w5;obtain⟨x10,z10,h6⟩:=H5.out _ w5 hw5;obtain⟨y2,y4,hcn,hS,gg,fD⟩:=h6 _ rfl;have HC:=zH hcn;have HX:=zH (zA hS (zA gg fD));clear hcn hS gg fD h6 hw5 hw0 H5 v0 v1 hwx;go_wp2_with (go_at_call 112;refine HC.out.mono ?_;rintro e w' ⟨rfl,rfl⟩);refine HX.out.1.mono ?_;rintro e w2 ⟨A2,v,rfl,q1,q2,q3,q4⟩;subst hok;have hv:v=.nilFunc:=q4;clear q4;subst hv;obtain⟨x4,z4,h3⟩:=H7.out A2 w2 .nilFunc _ rfl q1 q3;obtain⟨y23,z23,y2',hcn,h4⟩:=h3 _ rfl;have HC2:=zH hcn;have HX2:=zH (zA q1 (zA q2 (zA q3 h4)));clear hcn h3 h4 q1 q2 q3 H7 x10 z10 y2 y4;go_wp2_with fail;generalize hw3:w2.setCell ⟨A.bc s,4,none⟩ .nilFunc=w3 at*;refine wp_region_still_tail 14 (by kernel_rfl) (by kernel_rfl) ?_;simp only[zta,ztb,ztc,ztd]
 repeat still_step
 still_call HC2.out
 repeat still_step
 refine wpStill_nil ?_;change wpList _ _ _ _ _ w3.drew;have y23d:w3.drew.cell? ⟨A.be,23,none⟩=some (zi (σ2.looks:Int)):=y23;have z23d:w3.drew.frozen? ⟨A.be,23,none⟩=false:=z23;generalize w3.drew=wd at*;obtain⟨r4,g4,a10,a11⟩:=HX2.out.2.2.2 _ rfl;rw[hw] at a10;rw[hov] at a11;obtain⟨hc2,hdl,hcq,hs,_⟩:=HF.out;have q3:=HX2.out.2.2.1;have ebe:A2.be=A.be:=q3.be;have ebc:A2.bc=A.bc:=q3.bc;have hc4:({σ2.setC s {c2 with k:=none} with looks:=σ2.looks+dl}:St).calls.getD s none=some {c2 with k:=none}:=by show (σ2.setC s {c2 with k:=none}).calls.getD s none=_;rw[getC_set (lt_of_call hc2),if_pos rfl]
 have m13:=r4.eng (13+s) (engCs_call {A2 with vnext:=upF A2.vnext s .nilFunc} _ hs);have z13:=r4.engF (13+s);obtain⟨r5,g5⟩:=r4.vcallSet hs (.pointer none);have m8:=r5.call hc4 8 (v:=zi (c2.r.over:Int)) rfl;have m5:=r5.eng (5+s) (engCs_txn {A2 with vnext:=upF A2.vnext s .nilFunc,vcall:=upF A2.vcall s (.pointer none)} _ hs);have z5:=r5.engF (5+s);obtain⟨r6,g6⟩:=r5.dropTxn hs;have hown:=r6.mem.all (.pairs s);rw[mem_pairs (A:={A2 with vnext:=upF A2.vnext s .nilFunc,vcall:=upF A2.vcall s (.pointer none)}) (σ:={({σ2.setC s {c2 with k:=none} with looks:=σ2.looks+dl}:St) with txns:=({σ2.setC s {c2 with k:=none} with looks:=σ2.looks+dl}:St).txns.set s none}) hc4] at hown;obtain⟨pa,pcap,hpv,_⟩:=Ow.own_form hown.1;rw[show ({c2 with k:=none}:Cal).r.pairs.length=0 by rw[show ({c2 with k:=none}:Cal).r.pairs=[] from hpr];rfl] at hpv;have p0:=r6.call hc4 5 (v:=zi (c2.r.e:Int)) rfl;have p1:=r6.call hc4 6 (v:=zi (c2.r.value:Int)) rfl;have p2:=r6.call hc4 7 (v:=A2.vpairs s) rfl;have p3:=r6.call hc4 8 (v:=zi (c2.r.over:Int)) rfl;have p4:=r6.call hc4 9 (v:=zi (c2.r.reason:Int)) rfl;rw[show A2.vpairs s=.slice pa 0 pcap from hpv] at p2;simp only[ebe,ebc] at m13 z13 r5 g5 m8 m5 z5 r6 g6 p0 p1 p2 p3 p4;have d1:((c2.r.over:Int)==0)=false:=by simp;omega
 have d2:((c2.r.over:Int) !=0)=true:=by simp;omega
 have d3:((c2.r.over:Int)=0)=False:=by simp;omega
 have fD:=tmp_grow (tmp_grow (tmp_grow (tmp_grow HX.out.2.2 HX2.out.2.1) g4) g5) g6;have HY:=zH (zA r6 (zA (((g4.trans g5).trans g6)) (zA fD (zA hpr hro))));have HCP:=zH (copied_nil (((wd.setCell ⟨A.be,23,none⟩ (zi lb)).setCell ⟨A.be,13+s,none⟩ (.pointer none)).setCell ⟨A.be,5+s,none⟩ (.pointer none)) c2.r.e c2.r.value c2.r.over c2.r.reason pa pcap);clear r4 g4 r5 g5 r6 g6 fD hown hpv q3 ebe ebc hc4 hc2 hdl hcq hw hov hpr hro;go_wp2_with (first|(go_at_call 120;refine HCP.out.mono ?_;rintro e w7 ⟨rfl,hb⟩;have HB7:=zH hb;have HTH:=zH (there_of (tmp_grow HY.out.2.2.1 (Grow.below (L:=A2.L) hb)).2);clear hb)|(refine wpList_store_mid rfl 193 (.tmp 4) (.tmp 115) rfl w.heap.size 0 #[zi 3,zi (c2.r.e:Int),zi (c2.r.value:Int),.slice none 0 0,zi (c2.r.over:Int),zi (c2.r.reason:Int)] rfl rfl HTH.out (by kernel_rfl) (by simp[Value.oneCell']) ?_;generalize hws:World.setCells _ _ _ _=ws));have hbut:=But.setCells w.heap.size [zi 3,zi (c2.r.e:Int),zi (c2.r.value:Int),.slice none 0 0,zi (c2.r.over:Int),zi (c2.r.reason:Int)] 0 w7;have fD:=tmp_grow HY.out.2.2.1 (Grow.below (L:=A2.L) HB7.out);have hfin:=heap_setCells6 fD.2 (zi 3) (zi (c2.r.e:Int)) (zi (c2.r.value:Int)) (.slice none 0 0) (zi (c2.r.over:Int)) (zi (c2.r.reason:Int));rw[show w7.setCells w.heap.size 0 [zi 3,zi (c2.r.e:Int),zi (c2.r.value:Int),.slice none 0 0,zi (c2.r.over:Int),zi (c2.r.reason:Int)]=ws from hws] at hbut hfin
 (try simp only[Exit.inBlock,Exit.then])
 refine bodyPost_ret (results_cell_tmp_row rfl _ _ w.heap.size 193 #[zi 3,zi (c2.r.e:Int),zi (c2.r.value:Int),.slice none 0 0,zi (c2.r.over:Int),zi (c2.r.reason:Int)] _ _ rfl hfin Tryz.underlying193 rfl (by kernel_rfl)) rfl ?_;rw[HQ.out];obtain⟨hc2,hdl,hcq,hs,_⟩:=HF.out;obtain⟨q1,q2,q3,_⟩:=HX2.out;obtain⟨r6,g6,_,hpr,hro⟩:=HY.out;have r7:=((r6.below HB7.out).dropCall s).but fD.1 hbut;have gg:=((((HX.out.2.1.trans q2).trans g6).trans (Grow.below (L:=A2.L) HB7.out)).but (Nat.le_refl _) hbut)
 have hlen:s<(σ2.setC s {c2 with k:=none}).calls.length:=by have:=lt_of_call hc2;simpa [St.setC] using this
 have hns:((σ2.setC s {c2 with k:=none}).calls.set s none).getD s none=none:=by rw[getD_set _ _ _ _ _ hlen,if_pos rfl]
 refine⟨{A2 with be:=A.be,bc:=A.bc,vnext:=upF A2.vnext s .nilFunc,vcall:=upF A2.vcall s (.pointer none)},.slice none 0 0,rfl,by rw[hpr];exact FRow.nil _ _ _,Live.of (s:=s) HL0.out HSW.out r7 gg ⟨(by show (A.be,A2.swf)=_;rw[show A2.swf=A.swf from congrArg (·.2) q3.bf];rfl),q3.mp,q3.mt,fun q _=>congrFun q3.bt q,fun q _=>rfl,q3.bx,q3.vpairs,fun q hq=>(upF_other _ _ hq).trans (congrFun q3.vnext q),fun q hq=>(upF_other _ _ hq).trans (congrFun q3.vcall q)⟩ (fun q hq=>?_) (fun c' hcc=>?_) (fun hnn=>upF_same _ _ _),gg,rfl⟩
 · show ((σ2.setC s {c2 with k:=none}).calls.set s none).getD q none=_
   rw[getD_set _ _ _ _ _ hlen,if_neg hq,getC_set (lt_of_call hc2),if_neg hq];exact hcq q hq
 · have h0:=hns.symm.trans hcc
   cases h0
variable {A:Book} {σ:St} {w:World}
def FirstTo (σ3:St) (s:Nat):Prop:=∀ A w,Rep A σ3 w→A.mp=0→Calls Tryz.prog 132 #[.pointer (some ⟨A.be,0,none⟩),.pointer (some ⟨A.bt s,0,none⟩),.pointer (some ⟨A.bc s,0,none⟩)] w (Tells A w s (σ3.first s))
def Issued (A:Book) (w:World) (σ':St) (err:Int):Ending→World→Prop:=fun e w'=>∃ A',e=.returned (zi err)∧Live A' σ' w'∧Grow A.L w A'.L w'∧A'.be=A.be
def callOf (o:En.Op) (q:Nat):Cal:={op:=o,k:=none,r:={},waits:=false,over:=false,seq:=q}
theorem setC_getQ {σ:St} {s q:Nat} (c:Cal) (h:q≠s):(σ.setC s c).calls.getD q none=σ.calls.getD q none:=by
 unfold St.setC;simp only[List.getD_eq_getElem?_getD,List.getElem?_set];rw[if_neg (Ne.symm h)]
theorem issue_ends (hL:Live A σ w) (s:Nat) (hs:s<8) (t:Txn) (ht:σ.txns.getD s none=some t) (o:En.Op) (ho:opOk o=true) (he:opEnds o=true) (hn:σ.calls.getD s none=none) (hop:t.ops<1000000) (hsq:σ.seq<4000000000000000000)
 (HF:FirstTo (({σ with seq:=σ.seq+1}:St).setC s (callOf o (σ.seq+1))) s) (σ4:St) (k:K) (hf:(({σ with seq:=σ.seq+1}:St).setC s (callOf o (σ.seq+1))).first s=(σ4,k)) (c4:Cal) (hc4:σ4.calls.getD s none=some c4) (hcq:∀ q,q≠s→σ4.calls.getD q none=σ.calls.getD q none):
 Calls Tryz.prog 88 #[.pointer (some ⟨A.be,0,none⟩),zi (s:Int),.agg #[zi (o.kind:Int),zi (o.key:Int),zi (o.hi:Int),zi (o.value:Int)]] w (Issued A w (σ4.setC s {c4 with k:=some k}) 0):=by
 have HSW:Hid (σ4.sw=σ.sw∧σ4.cut=σ.cut):=zH (by have h:=first_sw (({σ with seq:=σ.seq+1}:St).setC s (callOf o (σ.seq+1))) s;rw[hf] at h;exact h);obtain⟨r0,g0,f0⟩:=allocs1 hL.rep #[zi (o.kind:Int),zi (o.key:Int),zi (o.hi:Int),zi (o.value:Int)] 166;have hsok:=zH (sessionOk s hs);have hok:=zH (opOk_true o ho);have hen:=zH (ends_op o);rw[he] at hen;have b1:(s:Int)<8:=by omega
 have b0:(0:Int)≤(s:Int):=by omega
 have hV:∀ (A':Book) (σ':St) w',Rep A' σ' w'→A'.be=A.be→A'.bt=A.bt→A'.vcall=A.vcall→(∃ t',σ'.txns.getD s none=some t')→w'.cell? ⟨A.be,5+s,none⟩=some (.pointer (some ⟨A.bt s,0,none⟩))∧w'.cell? ⟨A.be,13+s,none⟩=some (.pointer none):=by
  rintro A' σ' w' r e1 e2 e3 ⟨t',ht'⟩;have h:=r.eng (5+s) (engCs_txn A' σ' hs);have h2:=r.eng (13+s) (engCs_call A' σ' hs);have e:A'.tp σ' s=.pointer (some ⟨A.bt s,0,none⟩):=by unfold Book.tp;rw[ht',e2]
  rw[e,e1] at h;rw[e1,e3,hL.idle s hs hn] at h2;exact⟨h,h2⟩
 have HW:Hid (∀ w',Below (w.alloc (.cells #[zi (o.kind:Int),zi (o.key:Int),zi (o.hi:Int),zi (o.value:Int)] 166)).heap.size (w.alloc (.cells #[zi (o.kind:Int),zi (o.key:Int),zi (o.hi:Int),zi (o.value:Int)] 166)) w'→Rep A σ w'∧Grow A.L w A.L w'∧Fix A.L w' w.heap.size (.cells #[zi (o.kind:Int),zi (o.key:Int),zi (o.hi:Int),zi (o.value:Int)] 166)∧w'.cell? ⟨A.be,5+s,none⟩=some (.pointer (some ⟨A.bt s,0,none⟩))∧w'.cell? ⟨A.be,13+s,none⟩=some (.pointer none)∧w'.cell? ⟨A.bt s,5,none⟩=some (zi (t.ops:Int))∧w'.frozen? ⟨A.bt s,5,none⟩=false∧w'.cell? ⟨A.be,22,none⟩=some (zi (σ.seq:Int))∧w'.frozen? ⟨A.be,22,none⟩=false):=by
  intro w' hb;have r:=r0.below hb;have gb:=Grow.below (L:=A.L) hb;obtain⟨v1,v2⟩:=hV A σ w' r rfl rfl rfl ⟨t,ht⟩;exact⟨r,g0.trans gb,f0.grow gb,v1,v2,r.txn ht 5 rfl,r.txnF ht 5,r.eng 22 rfl,r.engF 22⟩
 obtain⟨_,_,_,v1,v2,v3,v4,v5,v6⟩:=HW.out _ (Below.refl _ _);have HL0:=zH (zA hL (zA ht (zA hn (zA hs (zA hc4 hcq)))));have HFF:=zH (zA HF hf);have hd:(decide ((12:Int)≤(t.ops:Int))=false∧((12:Int)≤(t.ops:Int))=False∧(12≤t.ops)=False)∨(decide ((12:Int)≤(t.ops:Int))=true∧((12:Int)≤(t.ops:Int))=True∧(12≤t.ops)=True∧Hid (0=0)):=by
  rcases Nat.lt_or_ge t.ops 12 with h|h
  · exact .inl ⟨by simp;omega,by simp;omega,by simp;omega⟩
  · exact .inr ⟨by simp;omega,by simp;omega,by simp;omega,zH rfl⟩
 have n1:IntKind.i64.wrap ((t.ops:Int)+1)=(t.ops:Int)+1:=by rw[IntKind.wrap_i64];omega
 have n2:IntKind.i64.wrap ((σ.seq:Int)+1)=(σ.seq:Int)+1:=by rw[IntKind.wrap_i64];omega
 clear hL r0 g0 f0 hs ho he hn hop hsq HF hf hc4 hcq hV ht
 rcases hd with ⟨d1,d2,d3⟩|⟨d1,d2,d3,TA⟩
 all_goals (
  go_enter Tryz.func88,Tryz.ntmps88
  go_wp2_with (first|(go_at_call 64;refine (hsok.out _).mono ?_;rintro e w' ⟨rfl,rfl⟩)|(go_at_call 130;refine (hok.out _).mono ?_;rintro e w1 ⟨rfl,hb⟩;obtain⟨r1,g1,f1,x1,x2,x3,x4,x5,x6⟩:=HW.out w1 hb;have y0:=f1.cell 0 (v:=zi (o.kind:Int)) rfl;have y1:=f1.cell 1 (v:=zi (o.key:Int)) rfl;have y2:=f1.cell 2 (v:=zi (o.hi:Int)) rfl;have y3:=f1.cell 3 (v:=zi (o.value:Int)) rfl;have H1:=zH hb;clear r1 g1 f1 hb)|(go_at_call 131;refine (hen.out _).mono ?_;rintro e w1 ⟨rfl,hb2⟩;clear TA;obtain⟨r1,g1,f1,x1,x2,x3,x4,x5,x6⟩:=HW.out w1 (H1.out.trans (hb2.mono H1.out.size));have y0:=f1.cell 0 (v:=zi (o.kind:Int)) rfl;have y1:=f1.cell 1 (v:=zi (o.key:Int)) rfl;have y2:=f1.cell 2 (v:=zi (o.hi:Int)) rfl;have y3:=f1.cell 3 (v:=zi (o.value:Int)) rfl;have H1':=zH (H1.out.trans (hb2.mono H1.out.size));clear r1 g1 f1 hb2 H1;have H1:=H1';clear H1')|(go_at_call 131;refine (hen.out _).mono ?_;rintro e w2 ⟨rfl,hb2⟩;obtain⟨r1,g1,f1,x1,x2,x3,x4,x5,x6⟩:=HW.out w2 (H1.out.trans (hb2.mono H1.out.size));have y0:=f1.cell 0 (v:=zi (o.kind:Int)) rfl;have y1:=f1.cell 1 (v:=zi (o.key:Int)) rfl;have y2:=f1.cell 2 (v:=zi (o.hi:Int)) rfl;have y3:=f1.cell 3 (v:=zi (o.value:Int)) rfl;have H2:=zH (zA r1 (zA g1 f1));clear r1 g1 f1 hb2))
  obtain⟨r1,g1,f1⟩:=H2.out
  obtain⟨hL,ht,hn,hs,hc4,hcq⟩:=HL0.out
  obtain⟨ra,ga1⟩:=r1.seqSet (σ.seq+1)
  rw[show ((σ.seq+1:Nat):Int)=(σ.seq:Int)+1 from rfl] at ra ga1
  have ga:=g1.trans ga1
  have fa:=f1.grow ga1
  clear ga1
  generalize w2.setCell ⟨A.be,22,none⟩ (zi ((σ.seq:Int)+1))=w3 at*
  have hseq:=ra.eng 22 (v:=zi ((σ.seq:Int)+1)) rfl
  have o0:=fa.cell 0 (v:=zi (o.kind:Int)) rfl
  have o1:=fa.cell 1 (v:=zi (o.key:Int)) rfl
  have o2:=fa.cell 2 (v:=zi (o.hi:Int)) rfl
  have o3:=fa.cell 3 (v:=zi (o.value:Int)) rfl
  have hB:Below w3.heap.size w3 (w3.alloc (.cells #[zi (o.kind:Int),zi (o.key:Int),zi (o.hi:Int),zi (o.value:Int),.nilFunc,zi 0,zi 0,.slice none 0 0,zi 0,zi 0,.bool false,.bool false,zi ((σ.seq:Int)+1)] 237)).drew:=((Below.refl _ _).alloc (Nat.le_refl _) _).drew
  have hblk:(w3.alloc (.cells #[zi (o.kind:Int),zi (o.key:Int),zi (o.hi:Int),zi (o.value:Int),.nilFunc,zi 0,zi 0,.slice none 0 0,zi 0,zi 0,.bool false,.bool false,zi ((σ.seq:Int)+1)] 237)).drew.heap[w3.heap.size]? =some (.cells (callCs (A.newCall s w3.heap.size .nilFunc) s (callOf o (σ.seq+1))).toArray 237):=by
   rw[show (callCs (A.newCall s w3.heap.size .nilFunc) s (callOf o (σ.seq+1))).toArray=#[zi (o.kind:Int),zi (o.key:Int),zi (o.hi:Int),zi (o.value:Int),.nilFunc,zi 0,zi 0,.slice none 0 0,zi 0,zi 0,.bool false,.bool false,zi ((σ.seq:Int)+1)] by simp[callCs,Book.newCall,upF,callOf]]
   exact heap_alloc_new w3 _
  have hn1:({σ with seq:=σ.seq+1}:St).calls.getD s none=none:=hn
  obtain⟨rb,gb⟩:=ra.newCall hB hs (Nat.le_refl _) .nilFunc (callOf o (σ.seq+1)) rfl hblk hn1
  obtain⟨A1,hA1⟩:∃ A1:Book,A1=A.newCall s w3.heap.size .nilFunc:=⟨_,rfl⟩
  rw[←hA1] at rb gb
  have e1:A1.be=A.be:=by rw[hA1];rfl
  have e2:A1.bt=A.bt:=by rw[hA1];rfl
  have e3:A1.bc s=w3.heap.size:=by rw[hA1];exact if_pos rfl
  have e4:A1.mp=A.mp:=by rw[hA1];rfl
  have hFF:=HFF.out.1 A1 _ rb (e4.trans hL.mp)
  rw[HFF.out.2,e1,e2,e3] at hFF
  have hst:∀ A5:Book,Stay A1 A5 s→StayQ A A5 s:=fun A5 st=>by
   refine⟨st.bf.trans (by rw[hA1];rfl),st.mp.trans e4,st.mt.trans (by rw[hA1];rfl),fun q _=>by rw[st.bt,e2],fun q hq=>by rw[st.bc,hA1];exact if_neg hq,fun q hq=>(st.bx q hq).trans (by rw[hA1];rfl),fun q hq=>(st.vpairs q hq).trans (by rw[hA1];exact upF_other _ _ hq),fun q hq=>by rw[st.vnext,hA1];exact upF_other _ _ hq,fun q hq=>by rw[st.vcall,hA1];rfl⟩
  have HN:Hid (∀ A5 w5 v A6,A6={A5 with vnext:=upF A5.vnext s v}→Rep A5 σ4 w5→Stay A1 A5 s→w5.cell? ⟨w3.heap.size,4,none⟩=some (A5.vnext s)∧w5.frozen? ⟨w3.heap.size,4,none⟩=false∧Rep A6 (σ4.setC s {c4 with k:=some k}) (w5.setCell ⟨w3.heap.size,4,none⟩ v)∧Grow A5.L w5 A5.L (w5.setCell ⟨w3.heap.size,4,none⟩ v)∧(w5.setCell ⟨w3.heap.size,4,none⟩ v).cell? ⟨A.be,13+s,none⟩=some (A5.vcall s)∧(w5.setCell ⟨w3.heap.size,4,none⟩ v).frozen? ⟨A.be,13+s,none⟩=false):=by
   intro A5 w5 v A6 hA6 q st
   have ebc:A5.bc s=w3.heap.size:=by rw[st.bc];exact e3
   have x4:=q.call hc4 4 (v:=A5.vnext s) rfl
   have z4:=q.callF hc4 4
   obtain⟨r6,g6⟩:=q.nextSet hc4 v (some k)
   rw[←hA6,ebc] at r6
   rw[ebc] at x4 z4 g6
   have e6:A6.be=A.be:=by rw[hA6];exact st.be.trans e1
   have m13:=r6.eng (13+s) (engCs_call A6 _ hs)
   have z13:=r6.engF (13+s)
   rw[e6] at m13 z13
   rw[show A6.vcall=A5.vcall by rw[hA6]] at m13
   exact⟨x4,z4,r6,g6,m13,z13⟩
  have HY:=zH (zA hFF (zA gb (zA ga (zA hst (zA e3 (zA e1 (zA hc4 (zA hcq hs))))))))
  clear hL ht hn hs hc4 hcq ra ga fa hB hblk hn1 rb gb hA1 e1 e2 e3 e4 hFF hst r1 g1 f1
  go_region
  generalize hw4:(w3.alloc _).drew=w4 at*
  clear hseq o0 o1 o2 o3 hw4
  go_wp2_with (go_at_call 132;refine HY.out.1.mono ?_;rintro e w5 ⟨A5,v,rfl,p1,p2,p3,p4⟩;obtain⟨f5,u5,u6,rfl,_⟩:=KRep.enter p4;obtain⟨x4,z4,r6,g6,m13,z13⟩:=HN.out A5 w5 (.func (.func f5) u5 u6) _ rfl p1 p3;have HP:=zH (zA p2 (zA p3 (zA p4 (zA r6 g6))));clear p1 p2 p3 p4 r6 g6)
  go_ret
  obtain⟨_,gb,ga,hst,e3,e1,hc4,hcq,hs⟩:=HY.out
  obtain⟨p2,p3,p4,r6,g6⟩:=HP.out
  obtain⟨r7,g7⟩:=r6.vcallSet hs (.pointer (some ⟨w3.heap.size,0,none⟩))
  obtain⟨A7,hA7⟩:∃ A7:Book,A7={A5 with vnext:=upF A5.vnext s (.func (.func f5) u5 u6),vcall:=upF A5.vcall s (.pointer (some ⟨w3.heap.size,0,none⟩))}:=⟨_,rfl⟩
  rw[show ({A5 with vnext:=upF A5.vnext s (.func (.func f5) u5 u6)}:Book).be=A.be from p3.be.trans e1] at g7
  have r8:Rep A7 (σ4.setC s {c4 with k:=some k}) ((w5.setCell ⟨w3.heap.size,4,none⟩ (.func (.func f5) u5 u6)).setCell ⟨A.be,13+s,none⟩ (.pointer (some ⟨w3.heap.size,0,none⟩))):=by
   rw[hA7,←show A5.be=A.be from p3.be.trans e1]
   exact r7
  have e7L:A7.L=A5.L:=by rw[hA7]
  have gg:Grow A.L w A7.L ((w5.setCell ⟨w3.heap.size,4,none⟩ (.func (.func f5) u5 u6)).setCell ⟨A.be,13+s,none⟩ (.pointer (some ⟨w3.heap.size,0,none⟩))):=by
   rw[e7L]
   exact (((ga.trans gb).trans p2).trans g6).trans g7
  have sq:=hst A5 p3
  have hc':(σ4.setC s {c4 with k:=some k}).calls.getD s none=some {c4 with k:=some k}:=by rw[getC_set (lt_of_call hc4),if_pos rfl]
  refine⟨A7,rfl,Live.of (s:=s) HL0.out.1 HSW.out r8 gg ⟨by rw[hA7];exact sq.bf,by rw[hA7];exact sq.mp,by rw[hA7];exact sq.mt,fun q hq=>by rw[hA7];exact sq.bt q hq,fun q hq=>by rw[hA7];exact sq.bc q hq,fun q hq=>by rw[hA7];exact sq.bx q hq,fun q hq=>by rw[hA7];exact sq.vpairs q hq,fun q hq=>by rw[hA7];exact (upF_other _ _ hq).trans (sq.vnext q hq),fun q hq=>by rw[hA7];exact (upF_other _ _ hq).trans (sq.vcall q hq)⟩ (fun q hq=>?_) (fun c' hcc=>?_) (fun hnn=>by have h0:=hc'.symm.trans hnn;cases h0),gg,by rw[hA7];exact sq.be⟩
  · rw[setC_getQ _ hq];exact hcq q hq
  · obtain rfl:{c4 with k:=some k}=c':=Option.some.inj (hc'.symm.trans hcc)
    refine⟨?_,k,rfl,?_⟩
    · rw[hA7]
      show upF A5.vcall s _ s=ptr (A5.bc s)
      rw[upF_same,p3.bc,e3]
    · have ek:kp A7 (σ4.setC s {c4 with k:=some k}) s=kp A5 σ4 s:=by unfold kp;rw[call_get hc',call_get hc4,hA7]
      have ev:A7.vnext s=.func (.func f5) u5 u6:=by rw[hA7];exact upF_same _ _ _
      rw[ek,ev,e7L]
      exact p4.grow (g6.trans g7)
 )
theorem issue_other (hL:Live A σ w) (s:Nat) (hs:s<8) (t:Txn) (ht:σ.txns.getD s none=some t) (o:En.Op) (ho:opOk o=true) (he:opEnds o=false) (hn:σ.calls.getD s none=none) (hop:t.ops<12) (hsq:σ.seq<4000000000000000000)
 (HF:FirstTo (({(σ.setT s {t with ops:=t.ops+1}) with seq:=σ.seq+1}:St).setC s (callOf o (σ.seq+1))) s) (σ4:St) (k:K) (hf:(({(σ.setT s {t with ops:=t.ops+1}) with seq:=σ.seq+1}:St).setC s (callOf o (σ.seq+1))).first s=(σ4,k)) (c4:Cal) (hc4:σ4.calls.getD s none=some c4) (hcq:∀ q,q≠s→σ4.calls.getD q none=σ.calls.getD q none):
 Calls Tryz.prog 88 #[.pointer (some ⟨A.be,0,none⟩),zi (s:Int),.agg #[zi (o.kind:Int),zi (o.key:Int),zi (o.hi:Int),zi (o.value:Int)]] w (Issued A w (σ4.setC s {c4 with k:=some k}) 0):=by
 have HSW:Hid (σ4.sw=σ.sw∧σ4.cut=σ.cut):=zH (by have h:=first_sw (({(σ.setT s {t with ops:=t.ops+1}) with seq:=σ.seq+1}:St).setC s (callOf o (σ.seq+1))) s;rw[hf] at h;exact h);obtain⟨r0,g0,f0⟩:=allocs1 hL.rep #[zi (o.kind:Int),zi (o.key:Int),zi (o.hi:Int),zi (o.value:Int)] 166;have hsok:=zH (sessionOk s hs);have hok:=zH (opOk_true o ho);have hen:=zH (ends_op o);rw[he] at hen;have b1:(s:Int)<8:=by omega
 have b0:(0:Int)≤(s:Int):=by omega
 have hV:∀ (A':Book) (σ':St) w',Rep A' σ' w'→A'.be=A.be→A'.bt=A.bt→A'.vcall=A.vcall→(∃ t',σ'.txns.getD s none=some t')→w'.cell? ⟨A.be,5+s,none⟩=some (.pointer (some ⟨A.bt s,0,none⟩))∧w'.cell? ⟨A.be,13+s,none⟩=some (.pointer none):=by
  rintro A' σ' w' r e1 e2 e3 ⟨t',ht'⟩;have h:=r.eng (5+s) (engCs_txn A' σ' hs);have h2:=r.eng (13+s) (engCs_call A' σ' hs);have e:A'.tp σ' s=.pointer (some ⟨A.bt s,0,none⟩):=by unfold Book.tp;rw[ht',e2]
  rw[e,e1] at h;rw[e1,e3,hL.idle s hs hn] at h2;exact⟨h,h2⟩
 have HW:Hid (∀ w',Below (w.alloc (.cells #[zi (o.kind:Int),zi (o.key:Int),zi (o.hi:Int),zi (o.value:Int)] 166)).heap.size (w.alloc (.cells #[zi (o.kind:Int),zi (o.key:Int),zi (o.hi:Int),zi (o.value:Int)] 166)) w'→Rep A σ w'∧Grow A.L w A.L w'∧Fix A.L w' w.heap.size (.cells #[zi (o.kind:Int),zi (o.key:Int),zi (o.hi:Int),zi (o.value:Int)] 166)∧w'.cell? ⟨A.be,5+s,none⟩=some (.pointer (some ⟨A.bt s,0,none⟩))∧w'.cell? ⟨A.be,13+s,none⟩=some (.pointer none)∧w'.cell? ⟨A.bt s,5,none⟩=some (zi (t.ops:Int))∧w'.frozen? ⟨A.bt s,5,none⟩=false∧w'.cell? ⟨A.be,22,none⟩=some (zi (σ.seq:Int))∧w'.frozen? ⟨A.be,22,none⟩=false):=by
  intro w' hb;have r:=r0.below hb;have gb:=Grow.below (L:=A.L) hb;obtain⟨v1,v2⟩:=hV A σ w' r rfl rfl rfl ⟨t,ht⟩;exact⟨r,g0.trans gb,f0.grow gb,v1,v2,r.txn ht 5 rfl,r.txnF ht 5,r.eng 22 rfl,r.engF 22⟩
 obtain⟨_,_,_,v1,v2,v3,v4,v5,v6⟩:=HW.out _ (Below.refl _ _);have HL0:=zH (zA hL (zA ht (zA hn (zA hs (zA hc4 hcq)))));have HFF:=zH (zA HF hf);have d1:decide ((12:Int)≤(t.ops:Int))=false:=by simp;omega
 have d2:((12:Int)≤(t.ops:Int))=False:=by simp;omega
 have d3:(12≤t.ops)=False:=by simp;omega
 have n1:IntKind.i64.wrap ((t.ops:Int)+1)=(t.ops:Int)+1:=by rw[IntKind.wrap_i64];omega
 have n2:IntKind.i64.wrap ((σ.seq:Int)+1)=(σ.seq:Int)+1:=by rw[IntKind.wrap_i64];omega
 clear hL r0 g0 f0 hs ho he hn hop hsq HF hf hc4 hcq hV ht;go_enter Tryz.func88,Tryz.ntmps88;go_wp2_with (first|(go_at_call 64;refine (hsok.out _).mono ?_;rintro e w' ⟨rfl,rfl⟩)|(go_at_call 130;refine (hok.out _).mono ?_;rintro e w1 ⟨rfl,hb⟩;obtain⟨r1,g1,f1,x1,x2,x3,x4,x5,x6⟩:=HW.out w1 hb;have y0:=f1.cell 0 (v:=zi (o.kind:Int)) rfl;have y1:=f1.cell 1 (v:=zi (o.key:Int)) rfl;have y2:=f1.cell 2 (v:=zi (o.hi:Int)) rfl;have y3:=f1.cell 3 (v:=zi (o.value:Int)) rfl;have H1:=zH hb;clear r1 g1 f1 hb)|(go_at_call 131;refine (hen.out _).mono ?_;rintro e w2 ⟨rfl,hb2⟩;obtain⟨r1,g1,f1,x1,x2,x3,x4,x5,x6⟩:=HW.out w2 (H1.out.trans (hb2.mono H1.out.size));have y0:=f1.cell 0 (v:=zi (o.kind:Int)) rfl;have y1:=f1.cell 1 (v:=zi (o.key:Int)) rfl;have y2:=f1.cell 2 (v:=zi (o.hi:Int)) rfl;have y3:=f1.cell 3 (v:=zi (o.value:Int)) rfl;have H2:=zH (zA r1 (zA g1 f1));clear r1 g1 f1 hb2));obtain⟨r1,g1,f1⟩:=H2.out;obtain⟨hL,ht,hn,hs,hc4,hcq⟩:=HL0.out;obtain⟨rt,gt⟩:=r1.setTxn ht {t with ops:=t.ops+1} 5 (zi ((t.ops:Int)+1)) rfl rfl rfl rfl rfl;obtain⟨ra,ga1⟩:=rt.seqSet (σ.seq+1);rw[show ((σ.seq+1:Nat):Int)=(σ.seq:Int)+1 from rfl] at ra ga1;have ga:=(g1.trans gt).trans ga1;have fa:=f1.grow (gt.trans ga1);clear ga1 rt gt;generalize (w2.setCell ⟨A.bt s,5,none⟩ (zi ((t.ops:Int)+1))).setCell ⟨A.be,22,none⟩ (zi ((σ.seq:Int)+1))=w3 at*;have hseq:=ra.eng 22 (v:=zi ((σ.seq:Int)+1)) rfl;have o0:=fa.cell 0 (v:=zi (o.kind:Int)) rfl;have o1:=fa.cell 1 (v:=zi (o.key:Int)) rfl;have o2:=fa.cell 2 (v:=zi (o.hi:Int)) rfl;have o3:=fa.cell 3 (v:=zi (o.value:Int)) rfl;have hB:Below w3.heap.size w3 (w3.alloc (.cells #[zi (o.kind:Int),zi (o.key:Int),zi (o.hi:Int),zi (o.value:Int),.nilFunc,zi 0,zi 0,.slice none 0 0,zi 0,zi 0,.bool false,.bool false,zi ((σ.seq:Int)+1)] 237)).drew:=((Below.refl _ _).alloc (Nat.le_refl _) _).drew;have hblk:(w3.alloc (.cells #[zi (o.kind:Int),zi (o.key:Int),zi (o.hi:Int),zi (o.value:Int),.nilFunc,zi 0,zi 0,.slice none 0 0,zi 0,zi 0,.bool false,.bool false,zi ((σ.seq:Int)+1)] 237)).drew.heap[w3.heap.size]? =some (.cells (callCs (A.newCall s w3.heap.size .nilFunc) s (callOf o (σ.seq+1))).toArray 237):=by
  rw[show (callCs (A.newCall s w3.heap.size .nilFunc) s (callOf o (σ.seq+1))).toArray=#[zi (o.kind:Int),zi (o.key:Int),zi (o.hi:Int),zi (o.value:Int),.nilFunc,zi 0,zi 0,.slice none 0 0,zi 0,zi 0,.bool false,.bool false,zi ((σ.seq:Int)+1)] by simp[callCs,Book.newCall,upF,callOf]];exact heap_alloc_new w3 _
 have hn1:({(σ.setT s {t with ops:=t.ops+1}) with seq:=σ.seq+1}:St).calls.getD s none=none:=hn;obtain⟨rb,gb⟩:=ra.newCall hB hs (Nat.le_refl _) .nilFunc (callOf o (σ.seq+1)) rfl hblk hn1;obtain⟨A1,hA1⟩:∃ A1:Book,A1=A.newCall s w3.heap.size .nilFunc:=⟨_,rfl⟩
 rw[←hA1] at rb gb;have e1:A1.be=A.be:=by rw[hA1];rfl
 have e2:A1.bt=A.bt:=by rw[hA1];rfl
 have e3:A1.bc s=w3.heap.size:=by rw[hA1];exact if_pos rfl
 have e4:A1.mp=A.mp:=by rw[hA1];rfl
 have hFF:=HFF.out.1 A1 _ rb (e4.trans hL.mp);rw[HFF.out.2,e1,e2,e3] at hFF;have hst:∀ A5:Book,Stay A1 A5 s→StayQ A A5 s:=fun A5 st=>by
  refine⟨st.bf.trans (by rw[hA1];rfl),st.mp.trans e4,st.mt.trans (by rw[hA1];rfl),fun q _=>by rw[st.bt,e2],fun q hq=>by rw[st.bc,hA1];exact if_neg hq,fun q hq=>(st.bx q hq).trans (by rw[hA1];rfl),fun q hq=>(st.vpairs q hq).trans (by rw[hA1];exact upF_other _ _ hq),fun q hq=>by rw[st.vnext,hA1];exact upF_other _ _ hq,fun q hq=>by rw[st.vcall,hA1];rfl⟩
 have HN:Hid (∀ A5 w5 v A6,A6={A5 with vnext:=upF A5.vnext s v}→Rep A5 σ4 w5→Stay A1 A5 s→w5.cell? ⟨w3.heap.size,4,none⟩=some (A5.vnext s)∧w5.frozen? ⟨w3.heap.size,4,none⟩=false∧Rep A6 (σ4.setC s {c4 with k:=some k}) (w5.setCell ⟨w3.heap.size,4,none⟩ v)∧Grow A5.L w5 A5.L (w5.setCell ⟨w3.heap.size,4,none⟩ v)∧(w5.setCell ⟨w3.heap.size,4,none⟩ v).cell? ⟨A.be,13+s,none⟩=some (A5.vcall s)∧(w5.setCell ⟨w3.heap.size,4,none⟩ v).frozen? ⟨A.be,13+s,none⟩=false):=by
  intro A5 w5 v A6 hA6 q st;have ebc:A5.bc s=w3.heap.size:=by rw[st.bc];exact e3
  have x4:=q.call hc4 4 (v:=A5.vnext s) rfl;have z4:=q.callF hc4 4;obtain⟨r6,g6⟩:=q.nextSet hc4 v (some k);rw[←hA6,ebc] at r6;rw[ebc] at x4 z4 g6;have e6:A6.be=A.be:=by rw[hA6];exact st.be.trans e1
  have m13:=r6.eng (13+s) (engCs_call A6 _ hs);have z13:=r6.engF (13+s);rw[e6] at m13 z13;rw[show A6.vcall=A5.vcall by rw[hA6]] at m13;exact⟨x4,z4,r6,g6,m13,z13⟩
 have HY:=zH (zA hFF (zA gb (zA ga (zA hst (zA e3 (zA e1 (zA hc4 (zA hcq hs))))))));clear hL ht hn hs hc4 hcq ra ga fa hB hblk hn1 rb gb hA1 e1 e2 e3 e4 hFF hst r1 g1 f1
 go_region
 generalize hw4:(w3.alloc _).drew=w4 at*;clear hseq o0 o1 o2 o3 hw4;go_wp2_with (go_at_call 132;refine HY.out.1.mono ?_;rintro e w5 ⟨A5,v,rfl,p1,p2,p3,p4⟩;obtain⟨f5,u5,u6,rfl,_⟩:=KRep.enter p4;obtain⟨x4,z4,r6,g6,m13,z13⟩:=HN.out A5 w5 (.func (.func f5) u5 u6) _ rfl p1 p3;have HP:=zH (zA p2 (zA p3 (zA p4 (zA r6 g6))));clear p1 p2 p3 p4 r6 g6);go_ret;obtain⟨_,gb,ga,hst,e3,e1,hc4,hcq,hs⟩:=HY.out;obtain⟨p2,p3,p4,r6,g6⟩:=HP.out;obtain⟨r7,g7⟩:=r6.vcallSet hs (.pointer (some ⟨w3.heap.size,0,none⟩));obtain⟨A7,hA7⟩:∃ A7:Book,A7={A5 with vnext:=upF A5.vnext s (.func (.func f5) u5 u6),vcall:=upF A5.vcall s (.pointer (some ⟨w3.heap.size,0,none⟩))}:=⟨_,rfl⟩
 rw[show ({A5 with vnext:=upF A5.vnext s (.func (.func f5) u5 u6)}:Book).be=A.be from p3.be.trans e1] at g7;have r8:Rep A7 (σ4.setC s {c4 with k:=some k}) ((w5.setCell ⟨w3.heap.size,4,none⟩ (.func (.func f5) u5 u6)).setCell ⟨A.be,13+s,none⟩ (.pointer (some ⟨w3.heap.size,0,none⟩))):=by
  rw[hA7,←show A5.be=A.be from p3.be.trans e1];exact r7
 have e7L:A7.L=A5.L:=by rw[hA7]
 have gg:Grow A.L w A7.L ((w5.setCell ⟨w3.heap.size,4,none⟩ (.func (.func f5) u5 u6)).setCell ⟨A.be,13+s,none⟩ (.pointer (some ⟨w3.heap.size,0,none⟩))):=by
  rw[e7L];exact (((ga.trans gb).trans p2).trans g6).trans g7
 have sq:=hst A5 p3;have hc':(σ4.setC s {c4 with k:=some k}).calls.getD s none=some {c4 with k:=some k}:=by rw[getC_set (lt_of_call hc4),if_pos rfl]
 refine⟨A7,rfl,Live.of (s:=s) HL0.out.1 HSW.out r8 gg ⟨by rw[hA7];exact sq.bf,by rw[hA7];exact sq.mp,by rw[hA7];exact sq.mt,fun q hq=>by rw[hA7];exact sq.bt q hq,fun q hq=>by rw[hA7];exact sq.bc q hq,fun q hq=>by rw[hA7];exact sq.bx q hq,fun q hq=>by rw[hA7];exact sq.vpairs q hq,fun q hq=>by rw[hA7];exact (upF_other _ _ hq).trans (sq.vnext q hq),fun q hq=>by rw[hA7];exact (upF_other _ _ hq).trans (sq.vcall q hq)⟩ (fun q hq=>?_) (fun c' hcc=>?_) (fun hnn=>by have h0:=hc'.symm.trans hnn;cases h0),gg,by rw[hA7];exact sq.be⟩
 · rw[setC_getQ _ hq];exact hcq q hq
 · obtain rfl:{c4 with k:=some k}=c':=Option.some.inj (hc'.symm.trans hcc)
   refine⟨?_,k,rfl,?_⟩
   · rw[hA7]
     show upF A5.vcall s _ s=ptr (A5.bc s);rw[upF_same,p3.bc,e3]
   · have ek:kp A7 (σ4.setC s {c4 with k:=some k}) s=kp A5 σ4 s:=by unfold kp;rw[call_get hc',call_get hc4,hA7]
     have ev:A7.vnext s=.func (.func f5) u5 u6:=by rw[hA7];exact upF_same _ _ _
     rw[ek,ev,e7L];exact p4.grow (g6.trans g7)
theorem step_pairs (hL:Live A σ w) (s:Nat) (hs:s<8) (t:Txn) (ht:σ.txns.getD s none=some t) (c:Cal) (hc:σ.calls.getD s none=some c) (k:K) (hk:c.k=some k) (hcnt:σ.count<3000000000000000000) (σ2:St) (ok:Option K) (hrun:(σ.setC s {c with waits:=false}).run s k=(σ2,ok)) (HS:RunsTo (σ.setC s {c with waits:=false}) s k) (c2:Cal) (hc2:σ2.calls.getD s none=some c2) (dl:Nat) (hdl:σ2.count=σ.count+dl) (hd1:dl<1000000) (hlk:σ2.looks<1000000000000000000) (hcq:∀ q,q≠s→σ2.calls.getD q none=σ.calls.getD q none) (t2:Txn) (ht2:σ2.txns.getD s none=some t2) (htl:σ2.tale.length<1000000) (hok:ok=none) (hw:c2.waits=false) (hov:c2.over=true) (hpr:c2.r.pairs.length≤1000000) (hro:c2.r.over=0):
 Calls Tryz.prog 92 #[.pointer (some ⟨A.be,0,none⟩),zi (s:Int)] w (Stepped A w (({σ2.setC s {c2 with k:=ok} with looks:=σ2.looks+dl,calls:=(σ2.setC s {c2 with k:=ok}).calls.set s none}:St).event {kind:=2,t:=t2.id,op:=c2.op,res:=c2.r}) 3 c2.r):=by
 have HSW:Hid (σ2.sw=σ.sw∧σ2.cut=σ.cut):=zH (by have h:=run_sw (σ.setC s {c with waits:=false}) s k;rw[hrun] at h;exact h);obtain⟨Q,hQ⟩:∃ Q,Q=Stepped A w (({σ2.setC s {c2 with k:=ok} with looks:=σ2.looks+dl,calls:=(σ2.setC s {c2 with k:=ok}).calls.set s none}:St).event {kind:=2,t:=t2.id,op:=c2.op,res:=c2.r}) 3 c2.r:=⟨_,rfl⟩
 rw[←hQ];have HQ:=zH hQ;clear hQ;obtain⟨r0,g0,fl,fh⟩:=hL.rep.newTmp (.cells #[zi 0,zi 0,zi 0,.slice none 0 0,zi 0,zi 0] 193);obtain⟨hvc,k0,hk0,hkr⟩:=hL.call s hs c hc;obtain rfl:k=k0:=by rw[hk] at hk0;exact Option.some.inj hk0
 obtain⟨fv,fb,fc,hvn,hent⟩:=hkr.enter;have hsok:=zH (sessionOk s hs);have b1:(s:Int)<8:=by omega
 have b0:(0:Int)≤(s:Int):=by omega
 have v0:(w.alloc (.cells #[zi 0,zi 0,zi 0,.slice none 0 0,zi 0,zi 0] 193)).cell? ⟨A.be,13+s,none⟩=some (.pointer (some ⟨A.bc s,0,none⟩)):=by rw[←show A.vcall s=.pointer (some ⟨A.bc s,0,none⟩) from hvc];exact r0.eng (13+s) (engCs_call (A.tmp w.heap.size) σ hs)
 have v1:(w.alloc (.cells #[zi 0,zi 0,zi 0,.slice none 0 0,zi 0,zi 0] 193)).cell? ⟨A.be,5+s,none⟩=some (.pointer (some ⟨A.bt s,0,none⟩)):=by
  have h:=r0.eng (5+s) (engCs_txn (A.tmp w.heap.size) σ hs);have e:(A.tmp w.heap.size).tp σ s=.pointer (some ⟨A.bt s,0,none⟩):=by unfold Book.tp;rw[ht];rfl
  rw[e] at h;exact h
 obtain⟨σ1,hσ1⟩:∃ σ1,σ1=σ.setC s {c with waits:=false}:=⟨_,rfl⟩
 rw[←hσ1] at hrun HS;have hc1:σ1.calls.getD s none=some {c with waits:=false}:=by rw[hσ1,getC_set (lt_of_call hc),if_pos rfl]
 have hkp:kp A σ1 s=kp A σ s:=by unfold kp;rw[call_get hc1,call_get hc]
 have H5:Hid (∀ n w5,(w.alloc (.cells #[zi 0,zi 0,zi 0,.slice none 0 0,zi 0,zi 0] 193)).drewN n=w5→w5.cell? ⟨A.bc s,10,none⟩=some (.bool c.waits)∧w5.frozen? ⟨A.bc s,10,none⟩=false∧∀ w6,w5.setCell ⟨A.bc s,10,none⟩ (.bool false)=w6→w6.cell? ⟨A.be,2,none⟩=some (.pointer (some ⟨A.ba,0,none⟩))∧w6.cell? ⟨A.bc s,4,none⟩=some (.func (.func fv) fb fc)∧Calls Tryz.prog 112 #[.pointer (some ⟨A.ba,0,none⟩)] w6 (fun e w'=>e=.returned (zi (σ.count:Int))∧w6=w')∧Calls Tryz.prog fv (fb++fc) w6 (Ran (A.tmp w.heap.size) w6 s (σ2,ok))∧Grow A.L w (A.tmp w.heap.size).L w6∧((A.tmp w.heap.size).L w.heap.size=some .tmp∧w6.heap[w.heap.size]? =some (.cells #[zi 0,zi 0,zi 0,.slice none 0 0,zi 0,zi 0] 193))):=by
  rintro n w5 rfl;have r5:=r0.drewN n;refine⟨r5.call hc 10 rfl,r5.callF hc 10,?_⟩;rintro w6 rfl;obtain⟨r6,g6⟩:=r5.setCall hc {c with waits:=false} 10 (.bool false) rfl rfl;have g56:=(Grow.drewN (A.tmp w.heap.size).L (w.alloc (.cells #[zi 0,zi 0,zi 0,.slice none 0 0,zi 0,zi 0] 193)) n).trans g6;have gg:=g0.trans g56;rw[←hσ1] at r6;have h4:_=some (A.vnext s):=r6.call hc1 4 rfl;rw[hvn] at h4;have h4':(((w.alloc (.cells #[zi 0,zi 0,zi 0,.slice none 0 0,zi 0,zi 0] 193)).drewN n).setCell ⟨A.bc s,10,none⟩ (.bool false)).cell? ⟨A.bc s,4,none⟩=some (.func (.func fv) fb fc):=h4;have hk6:=(hkr.grow gg)
  rw[hvn,←hkp] at hk6;have hS:=HS (A.tmp w.heap.size) _ fv fb fc r6 hL.mp (hL.mt s) hk6;rw[hrun] at hS;have hcn:=count_any r6 (by rw[hσ1];exact Nat.lt_trans hcnt (by decide));have hcc:σ1.count=σ.count:=by rw[hσ1];rfl
  rw[hcc] at hcn;exact⟨r6.eng 2 rfl,h4',hcn,hS,gg,tmp_grow ⟨fl,fh⟩ g56⟩
 have HL0:=zH hL;have HF:=zH (zA hc2 (zA hdl (zA hcq (zA hs hlk))));have n1:IntKind.i64.wrap (((σ.count+dl:Nat):Int) - (σ.count:Int))=(dl:Int):=by rw[IntKind.wrap_i64];omega
 have n2:IntKind.i64.wrap ((σ2.looks:Int)+(dl:Int))=((σ2.looks+dl:Nat):Int):=by rw[IntKind.wrap_i64];omega
 have H7 : Hid (∀ A2 w2 v A3, A3 = { A2 with vnext := upF A2.vnext s v } → Rep A2 σ2 w2 → Stay (A.tmp w.heap.size) A2 s → w2.cell? ⟨A.bc s, 4, none⟩ = some (A2.vnext s) ∧ w2.frozen? ⟨A.bc s, 4, none⟩ = false ∧ ∀ w3, w2.setCell ⟨A.bc s, 4, none⟩ v = w3 → w3.cell? ⟨A.be, 23, none⟩ = some (zi (σ2.looks : Int)) ∧ w3.frozen? ⟨A.be, 23, none⟩ = false ∧ w3.cell? ⟨A.be, 2, none⟩ = some (.pointer (some ⟨A.ba, 0, none⟩)) ∧ Calls Tryz.prog 112 #[.pointer (some ⟨A.ba, 0, none⟩)] w3.drew (fun e w' => e = .returned (zi ((σ.count + dl : Nat) : Int)) ∧ w' = w3.drew) ∧
     ∀ w4,w3.drew.setCell ⟨A.be,23,none⟩ (zi ((σ2.looks+dl:Nat):Int))=w4→Rep A3 ({σ2.setC s {c2 with k:=ok} with looks:=σ2.looks+dl}) w4∧Grow A2.L w2 A2.L w4∧w4.cell? ⟨A.bc s,10,none⟩=some (.bool c2.waits)∧w4.cell? ⟨A.bc s,11,none⟩=some (.bool c2.over)):=by
  intro A2 w2 v A3 hA3 q st;have ebc:A2.bc=A.bc:=st.bc;have ebe:A2.be=A.be:=st.be;have eba:A2.ba=A.ba:=st.ba;have x4:=q.call hc2 4 (v:=A2.vnext s) rfl;have z4:=q.callF hc2 4;rw[ebc] at x4 z4;refine⟨x4,z4,?_⟩;rintro w3 rfl;obtain⟨r3,g3⟩:=q.nextSet hc2 v ok;rw[←hA3,ebc] at r3;rw[ebc] at g3;have e3:A3.be=A.be:=by rw[hA3];exact ebe
  have e3a:A3.ba=A.ba:=by rw[hA3];exact eba
  have e3c:A3.bc=A.bc:=by rw[hA3];exact ebc
  have e3L:A3.L=A2.L:=by rw[hA3]
  have y23:=r3.eng 23 (v:=zi (σ2.looks:Int)) rfl;have z23:=r3.engF 23;have y2:=r3.eng 2 (v:=.pointer (some ⟨A3.ba,0,none⟩)) rfl;have hcn:=flip (count_any r3.drew (by show σ2.count<_;omega));rw[e3] at y23 z23 y2;rw[e3a] at hcn y2;rw[show (σ2.setC s {c2 with k:=ok}).count=σ.count+dl from hdl] at hcn;refine⟨y23,z23,y2,hcn,?_⟩;intro w4 hw4;obtain⟨r4,g4⟩:=r3.drew.looksSet (σ2.looks+dl);rw[e3,hw4] at r4 g4;rw[e3L] at g4;have hc4:({σ2.setC s {c2 with k:=ok} with looks:=σ2.looks+dl}:St).calls.getD s none=some {c2 with k:=ok}:=by show (σ2.setC s {c2 with k:=ok}).calls.getD s none=_;rw[getC_set (lt_of_call hc2),if_pos rfl]
  have a10:=r4.call hc4 10 (v:=.bool c2.waits) rfl;have a11:=r4.call hc4 11 (v:=.bool c2.over) rfl;rw[e3c] at a10 a11;exact⟨r4,(g3.trans (Grow.drew _ _)).trans g4,a10,a11⟩
 have hwx:(w.alloc (.cells #[zi 0,zi 0,zi 0,.slice none 0 0,zi 0,zi 0] 193)).cell? ⟨A.bc s,10,none⟩=some (.bool c.waits):=r0.call hc 10 rfl;have HVC:=zH hvc;clear hL ht hc hk hcnt hrun HS hc2 hdl hd1 hlk hcq r0 g0 fl fh hvc hk0 hkr hvn hσ1 hc1 hkp hs;generalize (σ.count:Int)=ca at*;generalize ((σ.count+dl:Nat):Int)=cb at*;generalize ((σ2.looks+dl:Nat):Int)=lb at*;go_enter Tryz.func92,Tryz.ntmps92;go_wp2_with (go_at_call 64;refine (hsok.out _).mono ?_;rintro e w' ⟨rfl,rfl⟩);generalize hw0:w.alloc _=w0 at*
 go_quiet (fail)
 generalize hw5:w0.drewN _=w5;obtain⟨x10,z10,h6⟩:=H5.out _ w5 hw5;obtain⟨y2,y4,hcn,hS,gg,fD⟩:=h6 _ rfl;have HC:=zH hcn;have HX:=zH (zA hS (zA gg fD));clear hcn hS gg fD h6 hw5 hw0 H5 v0 v1 hwx;go_wp2_with (go_at_call 112;refine HC.out.mono ?_;rintro e w' ⟨rfl,rfl⟩);refine HX.out.1.mono ?_;rintro e w2 ⟨A2,v,rfl,q1,q2,q3,q4⟩;subst hok;have hv:v=.nilFunc:=q4;clear q4;subst hv;obtain⟨x4,z4,h3⟩:=H7.out A2 w2 .nilFunc _ rfl q1 q3;obtain⟨y23,z23,y2',hcn,h4⟩:=h3 _ rfl;have HC2:=zH hcn;have HX2:=zH (zA q1 (zA q2 (zA q3 h4)));clear hcn h3 h4 q1 q2 q3 H7 x10 z10 y2 y4;go_wp2_with fail;generalize hw3:w2.setCell ⟨A.bc s,4,none⟩ .nilFunc=w3 at*;refine wp_region_still_tail 14 (by kernel_rfl) (by kernel_rfl) ?_;simp only[zta,ztb,ztc,ztd]
 repeat still_step
 still_call HC2.out
 repeat still_step
 refine wpStill_nil ?_;change wpList _ _ _ _ _ w3.drew;have y23d:w3.drew.cell? ⟨A.be,23,none⟩=some (zi (σ2.looks:Int)):=y23;have z23d:w3.drew.frozen? ⟨A.be,23,none⟩=false:=z23;generalize w3.drew=wd at*;obtain⟨r4,g4,a10,a11⟩:=HX2.out.2.2.2 _ rfl;rw[hw] at a10;rw[hov] at a11;obtain⟨hc2,hdl,hcq,hs,_⟩:=HF.out;have q3:=HX2.out.2.2.1;have hc4:({σ2.setC s {c2 with k:=none} with looks:=σ2.looks+dl}:St).calls.getD s none=some {c2 with k:=none}:=by show (σ2.setC s {c2 with k:=none}).calls.getD s none=_;rw[getC_set (lt_of_call hc2),if_pos rfl]
 obtain⟨A4,hA4⟩:∃ A4:Book,A4={A2 with vnext:=upF A2.vnext s .nilFunc}:=⟨_,rfl⟩
 rw[←hA4] at r4;have e4be:A4.be=A.be:=by rw[hA4];exact q3.be
 have e4L:A4.L=A2.L:=by rw[hA4]
 have m13:=r4.eng (13+s) (engCs_call A4 _ hs);have z13:=r4.engF (13+s);obtain⟨r5,g5⟩:=r4.vcallSet hs (.pointer none);obtain⟨A5,hA5⟩:∃ A5:Book,A5={A4 with vcall:=upF A4.vcall s (.pointer none)}:=⟨_,rfl⟩
 rw[←hA5,e4be] at r5;rw[e4be] at g5 m13 z13;have e5L:A5.L=A2.L:=by rw[hA5];exact e4L
 rw[e4L] at g5;have st5:StayQ A A5 s:=by
  rw[hA5,hA4];exact⟨q3.bf,q3.mp,q3.mt,fun q _=>congrFun q3.bt q,fun q _=>congrFun q3.bc q,q3.bx,q3.vpairs,fun q hq=>(upF_other _ _ hq).trans (congrFun q3.vnext q),fun q hq=>(upF_other _ _ hq).trans (congrFun q3.vcall q)⟩
 have e5bt:A5.bt=A.bt:=by rw[hA5,hA4];exact q3.bt
 have e5bc:A5.bc=A.bc:=by rw[hA5,hA4];exact q3.bc
 have e5v:A5.vcall s=.pointer none:=by rw[hA5];exact upF_same _ _ _
 have m8:=r5.call hc4 8 (v:=zi (c2.r.over:Int)) rfl;have hown:=r5.mem.all (.pairs s);rw[mem_pairs (A:=A5) hc4] at hown;obtain⟨pa,pcap,hpv,_⟩:=Ow.own_form hown.1;obtain⟨np,hnp⟩:∃ np,np=c2.r.pairs.length:=⟨_,rfl⟩
 rw[show ({c2 with k:=none}:Cal).r.pairs.length=np from hnp.symm] at hpv;rw[e5bc] at m8;rw[show (c2.r.over:Int)=0 by rw[hro];rfl] at m8;have hK0:∀ (A6:Book) (σ6:St) w',Rep A6 σ6 w'→A6.bt=A.bt→A6.bc=A.bc→A6.vpairs=A5.vpairs→σ6.txns.getD s none=some t2→σ6.calls.getD s none=some {c2 with k:=none}→w'.cell? ⟨A.bt s,0,none⟩=some (zi (t2.id:Int))∧w'.cell? ⟨A.bc s,0,none⟩=some (zi (c2.op.kind:Int))∧w'.cell? ⟨A.bc s,1,none⟩=some (zi (c2.op.key:Int))∧w'.cell? ⟨A.bc s,2,none⟩=some (zi (c2.op.hi:Int))∧w'.cell? ⟨A.bc s,3,none⟩=some (zi (c2.op.value:Int))∧w'.cell? ⟨A.bc s,5,none⟩=some (zi (c2.r.e:Int))∧w'.cell? ⟨A.bc s,6,none⟩=some (zi (c2.r.value:Int))∧w'.cell? ⟨A.bc s,7,none⟩=some (.slice pa np pcap)∧w'.cell? ⟨A.bc s,8,none⟩=some (zi (c2.r.over:Int))∧w'.cell? ⟨A.bc s,9,none⟩=some (zi (c2.r.reason:Int)):=by
  intro A6 σ6 w' r b1 b2 b3 b4 b5;have x0:=r.txn b4 0 (v:=zi (t2.id:Int)) rfl;have y0:=r.call b5 0 (v:=zi (c2.op.kind:Int)) rfl;have y1:=r.call b5 1 (v:=zi (c2.op.key:Int)) rfl;have y2:=r.call b5 2 (v:=zi (c2.op.hi:Int)) rfl;have y3:=r.call b5 3 (v:=zi (c2.op.value:Int)) rfl;have y5:=r.call b5 5 (v:=zi (c2.r.e:Int)) rfl;have y6:=r.call b5 6 (v:=zi (c2.r.value:Int)) rfl;have y7:=r.call b5 7 (v:=A6.vpairs s) rfl;have y8:=r.call b5 8 (v:=zi (c2.r.over:Int)) rfl;have y9:=r.call b5 9 (v:=zi (c2.r.reason:Int)) rfl;rw[b1] at x0;rw[b2] at y0 y1 y2 y3 y5 y6 y7 y8 y9;rw[b3,hpv] at y7;exact⟨x0,y0,y1,y2,y3,y5,y6,y7,y8,y9⟩
 have HE:Hid (∀ w6 va vc,Rep A5 ({σ2.setC s {c2 with k:=none} with looks:=σ2.looks+dl}:St) w6→PRow A5.L w6 (.slice va np vc) (pairCs c2.r.pairs)→Calls Tryz.prog 74 #[.pointer (some ⟨A.be,0,none⟩),.agg #[zi 2,zi (t2.id:Int),zu 0,zi (c2.op.kind:Int),zi (c2.op.key:Int),zi (c2.op.hi:Int),zi (c2.op.value:Int),zi (c2.r.e:Int),zi (c2.r.value:Int),.slice va np vc,zi (c2.r.over:Int),zi (c2.r.reason:Int)]] w6 (Does A5 w6 s (({σ2.setC s {c2 with k:=none} with looks:=σ2.looks+dl}:St).event {kind:=2,t:=t2.id,op:=c2.op,res:=c2.r}) (.tuple #[]))):=by
  intro w6 va vc r hp;have h:=event_any r s {kind:=2,t:=t2.id,op:=c2.op,res:=c2.r} 2 t2.id 0 c2.op.kind c2.op.key c2.op.hi c2.op.value c2.r.e c2.r.value c2.r.over c2.r.reason va np vc rfl hp htl;rw[st5.be] at h;exact h
 have HKR:Hid (∀ (A6:Book) (σ6:St) w',Rep A6 σ6 w'→A6.vpairs=A5.vpairs→σ6.calls.getD s none=some {c2 with k:=none}→Ow.Row w' 0 2 (.slice pa np pcap) (pairCs c2.r.pairs)):=by
  intro A6 σ6 w' r b3 b5;have h:=r.mem.all (.pairs s);rw[mem_pairs (A:=A6) b5] at h;have h2:=own_row h.1;rw[b3,hpv] at h2;exact h2
 have HNP:=zH (zA hnp.symm (by rw[hnp];exact hpr:np≤1000000));have HK0:=zH hK0;have fD:=tmp_grow (tmp_grow (tmp_grow HX.out.2.2 HX2.out.2.1) g4) g5;have HY:=zH (zA r5 (zA (g4.trans g5) (zA fD (zA hpr (zA hro (zA ht2 (zA hc4 (zA st5 (zA e5bt (zA e5bc (zA e5v e5L)))))))))));have S0:=hK0 A5 _ _ r5 e5bt e5bc rfl ht2 hc4;clear hnp hK0 r4 g4 r5 g5 fD hown hpv q3 hc4 hc2 hdl hcq hw hov hpr hro ht2 hA4 hA5 e4be e4L e5L st5 e5bt e5bc e5v htl;go_wp2_with fail;generalize hw5:World.setCell (World.setCell wd _ _) _ _=w5 at*;have HKB:Hid (∀ w',Below w5.heap.size w5 w'→w'.cell? ⟨A.bt s,0,none⟩=some (zi (t2.id:Int))∧w'.cell? ⟨A.bc s,0,none⟩=some (zi (c2.op.kind:Int))∧w'.cell? ⟨A.bc s,1,none⟩=some (zi (c2.op.key:Int))∧w'.cell? ⟨A.bc s,2,none⟩=some (zi (c2.op.hi:Int))∧w'.cell? ⟨A.bc s,3,none⟩=some (zi (c2.op.value:Int))∧w'.cell? ⟨A.bc s,5,none⟩=some (zi (c2.r.e:Int))∧w'.cell? ⟨A.bc s,6,none⟩=some (zi (c2.r.value:Int))∧w'.cell? ⟨A.bc s,7,none⟩=some (.slice pa np pcap)∧w'.cell? ⟨A.bc s,8,none⟩=some (zi (c2.r.over:Int))∧w'.cell? ⟨A.bc s,9,none⟩=some (zi (c2.r.reason:Int))):=fun w' hb=>HK0.out A5 _ _ (HY.out.1.below hb) HY.out.2.2.2.2.2.2.2.2.1 HY.out.2.2.2.2.2.2.2.2.2.1 rfl HY.out.2.2.2.2.2.1 HY.out.2.2.2.2.2.2.1
 have HK7:Hid (∀ A7 w',Rep A7 (({σ2.setC s {c2 with k:=none} with looks:=σ2.looks+dl}:St).event {kind:=2,t:=t2.id,op:=c2.op,res:=c2.r}) w'→Stay A5 A7 s→A7.vpairs=A5.vpairs→w'.cell? ⟨A.bt s,0,none⟩=some (zi (t2.id:Int))∧w'.cell? ⟨A.bc s,0,none⟩=some (zi (c2.op.kind:Int))∧w'.cell? ⟨A.bc s,1,none⟩=some (zi (c2.op.key:Int))∧w'.cell? ⟨A.bc s,2,none⟩=some (zi (c2.op.hi:Int))∧w'.cell? ⟨A.bc s,3,none⟩=some (zi (c2.op.value:Int))∧w'.cell? ⟨A.bc s,5,none⟩=some (zi (c2.r.e:Int))∧w'.cell? ⟨A.bc s,6,none⟩=some (zi (c2.r.value:Int))∧w'.cell? ⟨A.bc s,7,none⟩=some (.slice pa np pcap)∧w'.cell? ⟨A.bc s,8,none⟩=some (zi (c2.r.over:Int))∧w'.cell? ⟨A.bc s,9,none⟩=some (zi (c2.r.reason:Int))):=fun A7 w' r st vp=>HK0.out A7 _ _ r (st.bt.trans HY.out.2.2.2.2.2.2.2.2.1) (st.bc.trans HY.out.2.2.2.2.2.2.2.2.2.1) vp HY.out.2.2.2.2.2.1 HY.out.2.2.2.2.2.2.1
 have HRW:Hid (∀ w',Below w5.heap.size w5 w'→Ow.Row w' 0 2 (.slice pa np pcap) (pairCs c2.r.pairs)):=fun w' hb=>HKR.out A5 _ _ (HY.out.1.below hb) rfl HY.out.2.2.2.2.2.2.1
 have HFR:Hid (∀ b,w5.heap.size≤b→A5.L b=none):=HY.out.1.mem.fresh
 go_region_held3 (fun w'=>w'.cell? ⟨A.bt s,0,none⟩=some (zi (t2.id:Int))∧w'.cell? ⟨A.bc s,0,none⟩=some (zi (c2.op.kind:Int))∧w'.cell? ⟨A.bc s,1,none⟩=some (zi (c2.op.key:Int))∧w'.cell? ⟨A.bc s,2,none⟩=some (zi (c2.op.hi:Int))∧w'.cell? ⟨A.bc s,3,none⟩=some (zi (c2.op.value:Int))∧w'.cell? ⟨A.bc s,5,none⟩=some (zi (c2.r.e:Int))∧w'.cell? ⟨A.bc s,6,none⟩=some (zi (c2.r.value:Int))∧w'.cell? ⟨A.bc s,7,none⟩=some (.slice pa np pcap)∧w'.cell? ⟨A.bc s,8,none⟩=some (zi (c2.r.over:Int))∧w'.cell? ⟨A.bc s,9,none⟩=some (zi (c2.r.reason:Int)))
  (first|exact S0|assumption|exact HKB.out _ (by assumption)|exact HK7.out _ _ (by assumption) (by assumption) (by assumption))
  (first|(go_at_call 120;refine (copied_any _ _ _ _ _ _ _ _ c2.r.pairs (HRW.out _ ((Below.refl _ w5).drew)) HNP.out.1 HNP.out.2).mono ?_;rintro e w6 ⟨ca,cc,rfl,ho,hb⟩;have hb5:Below w5.heap.size w5 w6:=((Below.refl _ w5).drew).trans hb;have hPR:PRow A5.L w6 (.slice ca np cc) (pairCs c2.r.pairs):=prow_of_own ho (fun b h _=>HFR.out b h);clear hb ho)|(go_at_call 74;refine (HE.out _ _ _ (HY.out.1.below (by assumption)) (by assumption)).mono ?_;rintro e w7 ⟨rfl,A7,p1,p2,p3,p4,p5⟩))
 obtain⟨_,_,_,_,_,s5,s6,s7,s8,s9⟩:=HK7.out _ _ p1 p3 p5;rw[HY.out.2.2.2.2.2.2.2.2.2.2.2] at p2;have HTD:=zH (tmp_grow (tmp_grow HY.out.2.2.1 (Grow.below (L:=A2.L) hb5)) p2);have H7:=zH (zA p1 (zA ((Grow.below (L:=A2.L) hb5).trans p2) (zA p3 (zA p4 p5))));have HR7:=zH (HKR.out A7 _ _ p1 p5 HY.out.2.2.2.2.2.2.1);have HF7:=zH p1.mem.fresh;clear p1 p2 p3 p4 p5 hb5 S0 hPR;go_wp2_with (first|(go_at_call 120;refine (copied_any _ _ _ _ _ _ _ _ c2.r.pairs HR7.out HNP.out.1 HNP.out.2).mono ?_;rintro e w8 ⟨da,dc,rfl,ho8,hb8⟩;have HO8:=zH ho8;clear ho8;have HB8:=zH hb8;have HTH:=zH (there_of (tmp_grow HTD.out (Grow.below (L:=A7.L) hb8)).2);clear hb8)|(refine wpList_store_mid rfl 193 (.tmp 4) (.tmp 115) rfl w.heap.size 0 #[zi 3,zi (c2.r.e:Int),zi (c2.r.value:Int),.slice da np dc,zi (c2.r.over:Int),zi (c2.r.reason:Int)] rfl rfl HTH.out (by kernel_rfl) (by simp[Value.oneCell']) ?_;generalize hws:World.setCells _ _ _ _=ws));have hbut:=But.setCells w.heap.size [zi 3,zi (c2.r.e:Int),zi (c2.r.value:Int),.slice da np dc,zi (c2.r.over:Int),zi (c2.r.reason:Int)] 0 w8;have fD:=tmp_grow HTD.out (Grow.below (L:=A7.L) HB8.out);have hfin:=heap_setCells6 fD.2 (zi 3) (zi (c2.r.e:Int)) (zi (c2.r.value:Int)) (.slice da np dc) (zi (c2.r.over:Int)) (zi (c2.r.reason:Int));rw[show w8.setCells w.heap.size 0 [zi 3,zi (c2.r.e:Int),zi (c2.r.value:Int),.slice da np dc,zi (c2.r.over:Int),zi (c2.r.reason:Int)]=ws from hws] at hbut hfin
 (try simp only[Exit.inBlock,Exit.then])
 refine bodyPost_ret (results_cell_tmp_row rfl _ _ w.heap.size 193 #[zi 3,zi (c2.r.e:Int),zi (c2.r.value:Int),.slice da np dc,zi (c2.r.over:Int),zi (c2.r.reason:Int)] _ _ rfl hfin Tryz.underlying193 rfl (by kernel_rfl)) rfl ?_;rw[HQ.out];obtain⟨hc2,hdl,hcq,hs,_⟩:=HF.out;obtain⟨q1,q2,q3,_⟩:=HX2.out;obtain⟨_,g5,_,hpr,_,_,_,st5,_,_,e5v,e5L⟩:=HY.out;obtain⟨p1,p2,p3,p4,p5⟩:=H7.out;have r7:=((p1.below HB8.out).dropCall s).but fD.1 hbut;have gg:=(((((HX.out.2.1.trans q2).trans g5).trans p2).trans (Grow.below (L:=A7.L) HB8.out)).but (Nat.le_refl _) hbut)
 have hlen:s<(σ2.setC s {c2 with k:=none}).calls.length:=by have:=lt_of_call hc2;simpa [St.setC] using this
 have hns:((σ2.setC s {c2 with k:=none}).calls.set s none).getD s none=none:=by rw[getD_set _ _ _ _ _ hlen,if_pos rfl]
 refine⟨A7,.slice da np dc,rfl,(prow_of_own (own_but HO8.out hbut fD.2 (by decide)) (fun b h _=>HF7.out b h)).1,Live.of (s:=s) HL0.out HSW.out r7 gg ⟨p3.bf.trans st5.bf,p3.mp.trans st5.mp,p3.mt.trans st5.mt,fun q hq=>(congrFun p3.bt q).trans (st5.bt q hq),fun q hq=>(congrFun p3.bc q).trans (st5.bc q hq),fun q hq=>(p3.bx q hq).trans (st5.bx q hq),fun q hq=>(p3.vpairs q hq).trans (st5.vpairs q hq),fun q hq=>(congrFun p3.vnext q).trans (st5.vnext q hq),fun q hq=>(congrFun p3.vcall q).trans (st5.vcall q hq)⟩ (fun q hq=>?_) (fun c' hcc=>?_) (fun hnn=>(congrFun p3.vcall s).trans e5v),gg,p3.be.trans st5.be⟩
 · show ((σ2.setC s {c2 with k:=none}).calls.set s none).getD q none=_
   rw[getD_set _ _ _ _ _ hlen,if_neg hq,getC_set (lt_of_call hc2),if_neg hq];exact hcq q hq
 · have h0:=hns.symm.trans hcc
   cases h0
theorem toList_madeCells_two (a b:Value) (n:Nat):(madeCells #[a,b] (n*2)).toList=two (List.replicate n (a,b)):=by
 apply List.ext_getElem?
 intro i;have e1:(madeCells #[a,b] (n*2)).toList[i]? =if i<n*2 then some (#[a,b][i % 2]!) else none:=by
  by_cases h:i<n*2
  · rw[if_pos h];simp[madeCells,h]
  · rw[if_neg h,List.getElem?_eq_none_iff];simp[madeCells];omega
 rw[e1]
 by_cases h:i<n*2
 · rw[if_pos h]
   have hr:(List.replicate n (a,b))[i / 2]? =some (a,b):=by rw[List.getElem?_replicate,if_pos (by omega)]
   obtain⟨h0,h1⟩:=two_get (List.replicate n (a,b)) (i / 2) hr
   rcases Nat.mod_two_eq_zero_or_one i with hm|hm
   · rw[show 2*(i / 2)=i by omega] at h0
     rw[h0,hm];rfl
   · rw[show 2*(i / 2)+1=i by omega] at h1
     rw[h1,hm];rfl
 · rw[if_neg h]
   symm
   rw[List.getElem?_eq_none_iff,two_length];simp;omega
theorem infoU:(Tryz.prog.info? 226).map (fun i=>(i.zero,i.size,i.bytes))=some (some (.agg #[zu 0]),1,8):=by kernel_rfl
theorem infoV:(Tryz.prog.info? 176).map (fun i=>(i.zero,i.size,i.bytes))=some (some (.agg #[zi 0,zi 0]),2,16):=by kernel_rfl
theorem infoG:(Tryz.prog.info? 308).map (fun i=>(i.zero,i.size,i.bytes))=some (some (.agg #[zi 0,.bool false]),2,16):=by kernel_rfl
theorem make_words (n:Nat) (h:n≤100000) (w:World):(Instr.makeSlice 213 (zi (n:Int)) (zi (n:Int))).run Tryz.prog w=.ok (.slice (some ⟨w.heap.size,0,none⟩) n n) (w.alloc (.cells (madeCells #[zu 0] n) 226)):=by
 obtain⟨i,hi,hz0,hz1,hz2⟩:=info_parts infoU;have:=run_make (P:=Tryz.prog) w 213 226 i _ Tryz.underlying213 hi hz0 .i64 .i64 n n (by omega) (Int.le_refl _) (by rw[hz2];omega) (by omega);rw[hz1] at this
 simpa [Value.cells] using this
theorem make_tags (n:Nat) (h:n≤100000) (w:World):(Instr.makeSlice 219 (zi (n:Int)) (zi (n:Int))).run Tryz.prog w=.ok (.slice (some ⟨w.heap.size,0,none⟩) n n) (w.alloc (.cells (madeCells #[zi 0,.bool false] (n*2)) 308)):=by
 obtain⟨i,hi,hz0,hz1,hz2⟩:=info_parts infoG;have:=run_make (P:=Tryz.prog) w 219 308 i _ Tryz.underlying219 hi hz0 .i64 .i64 n n (by omega) (Int.le_refl _) (by rw[hz2];omega) (by omega);rw[hz1] at this
 simpa [Value.cells] using this
theorem make_values (n:Nat) (h:n≤100000) (w:World):(Instr.makeSlice 122 (zi (n:Int)) (zi (n:Int))).run Tryz.prog w=.ok (.slice (some ⟨w.heap.size,0,none⟩) n n) (w.alloc (.cells (madeCells #[zi 0,zi 0] (n*2)) 176)):=by
 obtain⟨i,hi,hz0,hz1,hz2⟩:=info_parts infoV;have:=run_make (P:=Tryz.prog) w 122 176 i _ Tryz.underlying122 hi hz0 .i64 .i64 n n (by omega) (Int.le_refl _) (by rw[hz2];omega) (by omega);rw[hz1] at this
 simpa [Value.cells] using this
theorem arenaNew (n:Nat) (h1:1≤n) (h2:n≤100000) (w:World):Calls Tryz.prog 58 #[zi (n:Int)] w fun e w'=>e=.returned (.tuple #[.pointer (some ⟨w.heap.size+1,0,none⟩),zi 0])∧w'=(w.alloc (.cells (madeCells #[zu 0] n) 226)).alloc (.cells #[.slice (some ⟨w.heap.size,0,none⟩) n n,zi 0] 218):=by
 have hm:=fun w=>make_words n h2 w
 have d1:decide ((n:Int)<1)=false:=by simp;omega
 have d2:((n:Int)<1)=False:=by simp;omega
 have d3:decide ((100000:Int)<(n:Int))=false:=by simp;omega
 have d4:((100000:Int)<(n:Int))=False:=by simp;omega
 have d5:(n<1)=False:=by simp;omega
 have d6:(100000<n)=False:=by simp;omega
 have d7:(n=0)=False:=by simp;omega
 clear h1 h2;go_enter Tryz.func58,Tryz.ntmps58;go_wp2
 go_ret2
 exact⟨rfl,rfl⟩
theorem poolNew (n:Nat) (h1:1≤n) (h2:n≤4096) (w:World):Calls Tryz.prog 59 #[zi (n:Int),zi 65535] w fun e w'=>e=.returned (.tuple #[.pointer (some ⟨w.heap.size+1,0,none⟩),zi 0])∧w'=(w.alloc (.cells (madeCells #[zi 0,.bool false] (n*2)) 308)).alloc (.cells #[.slice (some ⟨w.heap.size,0,none⟩) n n,zi 65535,.slice none 0 0,zi 0,.int .u32 0,.int .i32 0,.int .u32 0] 221):=by
 have hm:=fun w=>make_tags n (by omega) w
 have d1:decide ((n:Int)<1)=false:=by simp;omega
 have d2:((n:Int)<1)=False:=by simp;omega
 have d3:decide ((4096:Int)<(n:Int))=false:=by simp;omega
 have d4:((4096:Int)<(n:Int))=False:=by simp;omega
 have d5:(n<1)=False:=by simp;omega
 have d6:(4096<n)=False:=by simp;omega
 have d7:(n=0)=False:=by simp;omega
 clear h1 h2;go_enter Tryz.func59,Tryz.ntmps59;go_wp2
 go_ret2
 exact⟨rfl,rfl⟩
theorem confOk (n l:Nat) (h1:1≤n) (h2:n≤256) (h3:1≤l) (h4:l≤1099511627776) (w:World):Calls Tryz.prog 57 #[.agg #[zi (n:Int),zu (l:Int)]] w fun e w'=>e=.returned (.bool true)∧Below w.heap.size w w':=by
 have hb:Below w.heap.size w (w.alloc (.cells #[zi (n:Int),zu (l:Int)] 35)):=(Below.refl _ _).alloc (Nat.le_refl _) _;have HB:=zH hb;have d1:decide ((1:Int)≤(n:Int))=true:=by simp;omega
 have d2:decide ((n:Int)≤256)=true:=by simp;omega
 have d3:decide ((1:Int)≤(l:Int))=true:=by simp;omega
 have d4:decide ((l:Int)≤1099511627776)=true:=by simp;omega
 have e1:((1:Int)≤(n:Int))=True:=by simp;omega
 have e2:((n:Int)≤256)=True:=by simp;omega
 have e3:((1:Int)≤(l:Int))=True:=by simp;omega
 have e4:((l:Int)≤1099511627776)=True:=by simp;omega
 have g1:(1≤n)=True:=by simp;omega
 have g2:(n≤256)=True:=by simp;omega
 have g3:(1≤l)=True:=by simp;omega
 have g5:(0<n)=True:=by simp;omega
 have g6:(0<l)=True:=by simp;omega
 clear h1 h2 h3 h4 hb;go_enter Tryz.func57,Tryz.ntmps57;go_wp2;go_ret;exact⟨rfl,HB.out⟩
def book0 (be ba bw bp bs bv:Nat):Book where
 L:=fun k=>if k=be then some .eng else if k=ba then some .arena else if k=bw then some .words else if k=bp then some .pool else if k=bs then some .tags else if k=bv then some .values else none
 be:=be
 ba:=ba
 bw:=bw
 bp:=bp
 bs:=bs
 bv:=bv
 bt:=fun _=>0
 bm:=fun _=>0
 bc:=fun _=>0
 bx:=fun _ _=>0
 vfree:=.slice none 0 0
 vtale:=.slice none 0 0
 vcut:=.slice none 0 0
 hcut:=false
 gcut:=0
 vsweep:=.nilFunc
 vkeys:=fun _=>.slice none 0 0
 vreads:=fun _=>.slice none 0 0
 vbonds:=fun _=>.slice none 0 0
 vpairs:=fun _=>.slice none 0 0
 vnext:=fun _=>.nilFunc
 vcall:=fun _=>.pointer none
 taleCs:=[]
 cutCs:=[]
 mp:=0
 mt:=fun _=>0
 vover:=fun _=>false
theorem getD_rep {α:Type} (n s:Nat) (d:α):(List.replicate n d).getD s d=d:=by
 rw[List.getD_eq_getElem?_getD,List.getElem?_replicate]
 split<;>rfl
theorem rep_new {w:World} {n l be ba bw bp bs bv:Nat} (hn:1≤n∧n≤256)
 (d:be≠ba∧be≠bw∧be≠bp∧be≠bs∧be≠bv∧ba≠bw∧ba≠bp∧ba≠bs∧ba≠bv∧bw≠bp∧bw≠bs∧bw≠bv∧bp≠bs∧bp≠bv∧bs≠bv)
 (h1:w.heap[be]? =some (.cells #[zi (n:Int),zu (l:Int),.pointer (some ⟨ba,0,none⟩),.pointer (some ⟨bp,0,none⟩),.slice (some ⟨bv,0,none⟩) n n,.pointer none,.pointer none,.pointer none,.pointer none,.pointer none,.pointer none,.pointer none,.pointer none,.pointer none,.pointer none,.pointer none,.pointer none,.pointer none,.pointer none,.pointer none,.pointer none,zi 0,zi 0,zi 0,.slice none 0 0,.nilFunc,zu 0,.slice none 0 0,.bool false] 132))
 (h2:w.heap[ba]? =some (.cells #[.slice (some ⟨bw,0,none⟩) (73+n*3+2000+1) (73+n*3+2000+1),zi 0] 218))
 (h3:w.heap[bw]? =some (.cells (madeCells #[zu 0] (73+n*3+2000+1)) 226))
 (h4:w.heap[bp]? =some (.cells #[.slice (some ⟨bs,0,none⟩) n n,zi 65535,.slice none 0 0,zi 0,.int .u32 0,.int .i32 0,.int .u32 0] 221))
 (h5:w.heap[bs]? =some (.cells (madeCells #[zi 0,.bool false] (n*2)) 308))
 (h6:w.heap[bv]? =some (.cells (madeCells #[zi 0,zi 0] (n*2)) 176)):Live (book0 be ba bw bp bs bv) (new n l) w:=by
 obtain⟨d1,d2,d3,d4,d5,d6,d7,d8,d9,d10,d11,d12,d13,d14,d15⟩:=d;have hto:∀ (a:Array Value) (l:List Value),a.toList=l→a=l.toArray:=fun a l h=>by rw[←h]
 have e3:=hto _ _ (toList_madeCells_one (zu 0) (73+n*3+2000+1));have e5:=hto _ _ (toList_madeCells_two (zi 0) (.bool false) n);have e6:=hto _ _ (toList_madeCells_two (zi 0) (zi 0) n);rw[e3] at h3;rw[e5] at h5;rw[e6] at h6;have htx:∀ s,(new n l).txns.getD s none=none:=fun s=>getD_rep 8 s none
 have hcl:∀ s,(new n l).calls.getD s none=none:=fun s=>getD_rep 8 s none
 have hm:Holds (book0 be ba bw bp bs bv).L w (memOf (book0 be ba bw bp bs bv) (new n l)):=by
  refine⟨fun r=>?_,fun b hb=>?_⟩
  · cases r
    case eng=>exact⟨by simp[book0],h1⟩
    case arena=>exact⟨by simp[book0,Ne.symm d1],by simpa [memOf,arenaCs,new,book0,i64] using h2⟩
    case words=>exact⟨by simp[book0,Ne.symm d2,Ne.symm d6],by simpa [memOf,new,book0,u64] using h3⟩
    case pool=>exact⟨by simp[book0,Ne.symm d3,Ne.symm d7,Ne.symm d10],by simpa [memOf,poolCs,onceCs,new,book0,i64] using h4⟩
    case tags=>exact⟨by simp[book0,Ne.symm d4,Ne.symm d8,Ne.symm d11,Ne.symm d13],by simpa [memOf,tagCs,new,book0,i64] using h5⟩
    case values=>exact⟨by simp[book0,Ne.symm d5,Ne.symm d9,Ne.symm d12,Ne.symm d14,Ne.symm d15],by simpa [memOf,valueCs,new,book0,i64] using h6⟩
    case free=>exact⟨World.ownsRow_nil _ 0 _ _,fun g hg=>by cases hg⟩
    case tale=>exact⟨World.ownsRow_nil _ 0 _ _,fun g hg=>by cases hg⟩
    case cut=>trivial
    case tmp=>trivial
    case txn s=>simp only[memOf,htx];trivial
    case map s=>simp only[memOf,htx];trivial
    case cell s key=>simp only[memOf,htx];trivial
    case keys s=>simp only[memOf,htx];trivial
    case reads s=>simp only[memOf,htx];trivial
    case bonds s=>simp only[memOf,htx];trivial
    case call s=>simp only[memOf,hcl];trivial
    case pairs s=>simp only[memOf,hcl];trivial
  · have l1:=lt_of h1
    have l2:=lt_of h2;have l3:=lt_of h3;have l4:=lt_of h4;have l5:=lt_of h5;have l6:=lt_of h6;show (if b=be then some Role.eng else _)=none;rw[if_neg (by omega),if_neg (by omega),if_neg (by omega),if_neg (by omega),if_neg (by omega),if_neg (by omega)]
 refine⟨⟨hm,rfl,hn,by simp[new],by simp[new],by simp[new],by simp[new],by simp[new]⟩,rfl,fun _=>rfl,fun s _ c hc=>absurd ((hcl s).symm.trans hc) (by simp),fun s _ _=>rfl,⟨rfl,.inl ⟨rfl,rfl,rfl⟩⟩⟩
theorem engineNew (n l:Nat) (h1:1≤n) (h2:n≤256) (h3:1≤l) (h4:l≤1099511627776) (w:World):Calls Tryz.prog 30 #[.agg #[zi (n:Int),zu (l:Int)]] w fun e w'=>∃ A,e=.returned (.tuple #[.pointer (some ⟨A.be,0,none⟩),zi 0])∧Live A (new n l) w'∧Grow (fun _=>none) w A.L w':=by
 have hco:=zH (confOk n l h1 h2 h3 h4);have han:=zH (fun w=>arenaNew (73+n*3+2000+1) (by omega) (by omega) w);have hpn:=zH (fun w=>poolNew n h1 (by omega) w);have hmv:=fun w=>make_values n (by omega) w
 have ea:((73+n*3+2000+1:Nat):Int)=73+(n:Int)*3+2000+1:=by omega
 rw[ea] at han;have n1:IntKind.i64.wrap ((n:Int)*3)=(n:Int)*3:=by rw[IntKind.wrap_i64];omega
 have n2:IntKind.i64.wrap (73+(n:Int)*3)=73+(n:Int)*3:=by rw[IntKind.wrap_i64];omega
 have n3:IntKind.i64.wrap (73+(n:Int)*3+2000)=73+(n:Int)*3+2000:=by rw[IntKind.wrap_i64];omega
 have n4:IntKind.i64.wrap (73+(n:Int)*3+2000+1)=73+(n:Int)*3+2000+1:=by rw[IntKind.wrap_i64];omega
 have HN:=zH (zA h1 h2);have x0:(w.alloc (.cells #[zi (n:Int),zu (l:Int)] 35)).cell? ⟨w.heap.size,0,none⟩=some (zi (n:Int)):=by rw[cell_of_row _ _ 0 _ _ _ (heap_alloc_new w _)];rfl
 have x1:(w.alloc (.cells #[zi (n:Int),zu (l:Int)] 35)).cell? ⟨w.heap.size,1,none⟩=some (zu (l:Int)):=by rw[cell_of_row _ _ 1 _ _ _ (heap_alloc_new w _)];rfl
 have HC:Hid (∀ w1,Below (w.alloc (.cells #[zi (n:Int),zu (l:Int)] 35)).heap.size (w.alloc (.cells #[zi (n:Int),zu (l:Int)] 35)) w1→w1.cell? ⟨w.heap.size,0,none⟩=some (zi (n:Int))∧w1.cell? ⟨w.heap.size,1,none⟩=some (zu (l:Int))∧w.heap.size<w1.heap.size):=by
  intro w1 hb;have hs:=size_alloc1 w (.cells #[zi (n:Int),zu (l:Int)] 35);have hz:=hb.size;exact⟨(hb.cell (p:=⟨w.heap.size,0,none⟩) (by rw[hs];exact Nat.lt_succ_self _)).trans x0,(hb.cell (p:=⟨w.heap.size,1,none⟩) (by rw[hs];exact Nat.lt_succ_self _)).trans x1,by omega⟩
 have HB2:Hid (∀ (w1 w2:World) (a b:Obj),w2=(w1.alloc a).alloc b→w.heap.size<w1.heap.size→w1.cell? ⟨w.heap.size,0,none⟩=some (zi (n:Int))→w1.cell? ⟨w.heap.size,1,none⟩=some (zu (l:Int))→w2.cell? ⟨w.heap.size,0,none⟩=some (zi (n:Int))∧w2.cell? ⟨w.heap.size,1,none⟩=some (zu (l:Int))∧w.heap.size<w2.heap.size):=by
  rintro w1 w2 a b rfl hl k0 k1;have hb:Below w1.heap.size w1 ((w1.alloc a).alloc b):=((Below.refl _ _).alloc (Nat.le_refl _) _).alloc (by simp) _;exact⟨(hb.cell (p:=⟨w.heap.size,0,none⟩) hl).trans k0,(hb.cell (p:=⟨w.heap.size,1,none⟩) hl).trans k1,Nat.lt_of_lt_of_le hl hb.size⟩
 clear h1 h2 h3 h4 ea;go_enter Tryz.func30,Tryz.ntmps30;go_wp2_with (first|(go_at_call 57;refine (hco.out _).mono ?_;rintro e w1 ⟨rfl,hb⟩;obtain⟨y0,y1,hsz⟩:=HC.out w1 hb;have HB:=zH (zA hb hsz);clear hb hsz)|(go_at_call 58;refine (han.out _).mono ?_;rintro e w2 ⟨rfl,hw2⟩;obtain⟨z0,z1,hl2⟩:=HB2.out w1 w2 _ _ hw2 HB.out.2 y0 y1;have H2:=zH (zA hw2 hl2);clear hw2 hl2)|(go_at_call 59;refine (hpn.out _).mono ?_;rintro e w3 ⟨rfl,hw3⟩;obtain⟨u0,u1,hl3⟩:=HB2.out w2 w3 _ _ hw3 H2.out.2 z0 z1;have H3:=zH (zA hw3 hl3);clear hw3 hl3));have v0:(w3.alloc (.cells (madeCells #[zi 0,zi 0] (n*2)) 176)).cell? ⟨w.heap.size,0,none⟩=some (zi (n:Int)):=by rw[World.cell?_alloc_past _ _ _ H3.out.2];exact u0
 have v1:(w3.alloc (.cells (madeCells #[zi 0,zi 0] (n*2)) 176)).cell? ⟨w.heap.size,1,none⟩=some (zu (l:Int)):=by rw[World.cell?_alloc_past _ _ _ H3.out.2];exact u1
 go_region
 go_wp2_with fail
 go_ret2
 obtain⟨hw2,_⟩:=H2.out;obtain⟨hw3,_⟩:=H3.out;obtain⟨hb1,hl1⟩:=HB.out;have two_old:∀ (w:World) (a b:Obj),((w.alloc a).alloc b).heap[w.heap.size]? =some a:=fun w a b=>(Below.heap_alloc _ _ _ (by simp)).trans (heap_alloc_new w a)
 have s2:w2.heap.size=w1.heap.size+2:=by rw[hw2];simp
 have s3:w3.heap.size=w2.heap.size+2:=by rw[hw3];simp
 have bel:∀ (w:World) (a b:Obj),Below w.heap.size w ((w.alloc a).alloc b):=fun w a b=>((Below.refl _ _).alloc (Nat.le_refl _) _).alloc (by simp) _
 have f2a:=two_old w1 (.cells (madeCells #[zu 0] (73+n*3+2000+1)) 226) (.cells #[.slice (some ⟨w1.heap.size,0,none⟩) (73+n*3+2000+1) (73+n*3+2000+1),zi 0] 218);have f2b:=heap_alloc2_new w1 (.cells (madeCells #[zu 0] (73+n*3+2000+1)) 226) (.cells #[.slice (some ⟨w1.heap.size,0,none⟩) (73+n*3+2000+1) (73+n*3+2000+1),zi 0] 218);rw[←hw2] at f2a f2b;have f3a:=two_old w2 (.cells (madeCells #[zi 0,.bool false] (n*2)) 308) (.cells #[.slice (some ⟨w2.heap.size,0,none⟩) n n,zi 65535,.slice none 0 0,zi 0,.int .u32 0,.int .i32 0,.int .u32 0] 221);have f3b:=heap_alloc2_new w2 (.cells (madeCells #[zi 0,.bool false] (n*2)) 308) (.cells #[.slice (some ⟨w2.heap.size,0,none⟩) n n,zi 65535,.slice none 0 0,zi 0,.int .u32 0,.int .i32 0,.int .u32 0] 221);rw[←hw3] at f3a f3b;have b12:Below w1.heap.size w1 w2:=by rw[hw2];exact bel _ _ _
 have b23:Below w2.heap.size w2 w3:=by rw[hw3];exact bel _ _ _
 have b34:=(bel w3 (.cells (madeCells #[zi 0,zi 0] (n*2)) 176) (.cells #[zi (n:Int),zu (l:Int),.pointer (some ⟨w1.heap.size+1,0,none⟩),.pointer (some ⟨w2.heap.size+1,0,none⟩),.slice (some ⟨w3.heap.size,0,none⟩) n n,.pointer none,.pointer none,.pointer none,.pointer none,.pointer none,.pointer none,.pointer none,.pointer none,.pointer none,.pointer none,.pointer none,.pointer none,.pointer none,.pointer none,.pointer none,.pointer none,zi 0,zi 0,zi 0,.slice none 0 0,.nilFunc,zu 0,.slice none 0 0,.bool false] 132)).drew;have b0w:Below w.heap.size w w1:=((Below.refl _ _).alloc (Nat.le_refl _) _).trans (hb1.mono (by simp));have f4a:=two_old w3 (.cells (madeCells #[zi 0,zi 0] (n*2)) 176) (.cells #[zi (n:Int),zu (l:Int),.pointer (some ⟨w1.heap.size+1,0,none⟩),.pointer (some ⟨w2.heap.size+1,0,none⟩),.slice (some ⟨w3.heap.size,0,none⟩) n n,.pointer none,.pointer none,.pointer none,.pointer none,.pointer none,.pointer none,.pointer none,.pointer none,.pointer none,.pointer none,.pointer none,.pointer none,.pointer none,.pointer none,.pointer none,.pointer none,zi 0,zi 0,zi 0,.slice none 0 0,.nilFunc,zu 0,.slice none 0 0,.bool false] 132);have f4b:=heap_alloc2_new w3 (.cells (madeCells #[zi 0,zi 0] (n*2)) 176) (.cells #[zi (n:Int),zu (l:Int),.pointer (some ⟨w1.heap.size+1,0,none⟩),.pointer (some ⟨w2.heap.size+1,0,none⟩),.slice (some ⟨w3.heap.size,0,none⟩) n n,.pointer none,.pointer none,.pointer none,.pointer none,.pointer none,.pointer none,.pointer none,.pointer none,.pointer none,.pointer none,.pointer none,.pointer none,.pointer none,.pointer none,.pointer none,.pointer none,zi 0,zi 0,zi 0,.slice none 0 0,.nilFunc,zu 0,.slice none 0 0,.bool false] 132);refine⟨book0 (w3.heap.size+1) (w1.heap.size+1) w1.heap.size (w2.heap.size+1) w2.heap.size w3.heap.size,rfl,?_,?_⟩
 · refine rep_new HN.out (by omega) f4b ?_ ?_ ?_ ?_ f4a
   · exact (b34.block _ (by omega)).trans ((b23.block _ (by omega)).trans f2b)
   · exact (b34.block _ (by omega)).trans ((b23.block _ (by omega)).trans f2a)
   · exact (b34.block _ (by omega)).trans f3b
   · exact (b34.block _ (by omega)).trans f3a
 · have hall:=((b0w.trans (b12.mono (by omega))).trans (b23.mono (by omega))).trans (b34.mono (by omega))
   refine⟨hall.os,hall.tape,hall.output,hall.size,fun b hb _=>hall.block b hb,fun b hb=>?_,fun b hb e=>by cases e⟩;show (if b=w3.heap.size+1 then some Role.eng else _)=none;rw[if_neg (by omega),if_neg (by omega),if_neg (by omega),if_neg (by omega),if_neg (by omega),if_neg (by omega)]
end Go.Proofs.YtiimlopcifljeaaGreatDoor.Em
