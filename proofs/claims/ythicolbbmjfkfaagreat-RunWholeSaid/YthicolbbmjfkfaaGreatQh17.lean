import Derived.Test.YthicolbbmjfkfaaGreatQh12
import Derived.Test.YthicolbbmjfkfaaGreatQh13
import Derived.Laws.MakeOwn
set_option linter.unusedVariables false
set_option linter.unusedSimpArgs false
set_option maxRecDepth 100000
set_option maxHeartbeats 1600000
namespace Go.Proofs.YthicolbbmjfkfaaGreat.Em
open Go.ChangeShapes Go.WideShapes Go.ChangeAt Go.RowKit En
theorem wV (o:En.Op) (h:jK o=true) (w:World):zk 68 #[.agg #[I o.kind,I o.E,I o.hi,I o.value]] w fun e G=>e=.returned (.bool true)∧Below w.heap.size w G:=by
 have Z:Below w.heap.size w (w.alloc (.cells #[I o.kind,I o.E,I o.hi,I o.value] 27)):=(Below.refl _ _).alloc (zr _) _;have HB:=U Z;clear Z;obtain⟨kind,E,hi,value⟩:=o;unfold jK at h;simp only at h HB ⊢;have V:kind=1∨kind=2∨kind=3∨kind=4∨kind=5∨kind=6∨kind=7:=by
  by_cases h1:kind=1;exact .inl h1
  by_cases h2:kind=2;exact .inr (.inl h2)
  by_cases h3:kind=3;exact .inr (.inr (.inl h3))
  by_cases h4:kind=4;exact .inr (.inr (.inr (.inl h4)))
  by_cases h5:kind=5;exact .inr (.inr (.inr (.inr (.inl h5))))
  by_cases h6:kind=6;exact .inr (.inr (.inr (.inr (.inr (.inl h6)))))
  by_cases h7:kind=7;exact .inr (.inr (.inr (.inr (.inr (.inr h7)))))
  simp[h1,h2,h3,h4,h5,h6,h7] at h
 rcases V with rfl|rfl|rfl|rfl|rfl|rfl|rfl
 . simp only[gQ,zd,beq_iff_eq] at h
   have hx:=h;have a1:decide ((E:Int)<=(63:Int))=true:=by simp;omega
   have a2:((E:Int)<=(63:Int))=True:=by simp;omega
   have b1:((hi:Int)==0)=true:=by simp;omega
   have b2:((hi:Int)=0)=True:=by simp;omega
   have c1:((value:Int)==0)=true:=by simp;omega
   have c2:((value:Int)=0)=True:=by simp;omega
   clear h hx;go_enter Tryz.func68,Tryz.ntmps68;go_wp2;go_ret;exact⟨rfl,HB.out⟩
 . simp only[gQ,zd,beq_iff_eq] at h
   have hx:=h;have a1:decide ((E:Int)<=(63:Int))=true:=by simp;omega
   have a2:((E:Int)<=(63:Int))=True:=by simp;omega
   have b1:((hi:Int)==0)=true:=by simp;omega
   have b2:((hi:Int)=0)=True:=by simp;omega
   have c1:decide ((value:Int)<=(65535:Int))=true:=by simp;omega
   have c2:((value:Int)<=(65535:Int))=True:=by simp;omega
   clear h hx;go_enter Tryz.func68,Tryz.ntmps68;go_wp2;go_ret;exact⟨rfl,HB.out⟩
 . simp only[gQ,zd,beq_iff_eq] at h
   have hx:=h;have a1:decide ((E:Int)<=(63:Int))=true:=by simp;omega
   have a2:((E:Int)<=(63:Int))=True:=by simp;omega
   have b1:((hi:Int)==0)=true:=by simp;omega
   have b2:((hi:Int)=0)=True:=by simp;omega
   have c1:decide ((value:Int)<=(65535:Int))=true:=by simp;omega
   have c2:((value:Int)<=(65535:Int))=True:=by simp;omega
   clear h hx;go_enter Tryz.func68,Tryz.ntmps68;go_wp2;go_ret;exact⟨rfl,HB.out⟩
 . simp only[gQ,zd,beq_iff_eq] at h
   have hx:=h;have a1:decide ((E:Int)<=(63:Int))=true:=by simp;omega
   have a2:((E:Int)<=(63:Int))=True:=by simp;omega
   have b1:((hi:Int)==0)=true:=by simp;omega
   have b2:((hi:Int)=0)=True:=by simp;omega
   have c1:((value:Int)==0)=true:=by simp;omega
   have c2:((value:Int)=0)=True:=by simp;omega
   clear h hx;go_enter Tryz.func68,Tryz.ntmps68;go_wp2;go_ret;exact⟨rfl,HB.out⟩
 . simp only[gQ,zd,beq_iff_eq] at h
   have hx:=h;have a1:decide ((E:Int)<=(63:Int))=true:=by simp;omega
   have a2:((E:Int)<=(63:Int))=True:=by simp;omega
   have b1:decide ((E:Int)<=(hi:Int))=true:=by simp;omega
   have b2:((E:Int)<=(hi:Int))=True:=by simp;omega
   have e1:decide ((hi:Int)<=(63:Int))=true:=by simp;omega
   have e2:((hi:Int)<=(63:Int))=True:=by simp;omega
   have c1:((value:Int)==0)=true:=by simp;omega
   have c2:((value:Int)=0)=True:=by simp;omega
   clear h hx;go_enter Tryz.func68,Tryz.ntmps68;go_wp2;go_ret;exact⟨rfl,HB.out⟩
 . simp only[gQ,zd,beq_iff_eq] at h
   have hx:=h;have a1:((E:Int)==0)=true:=by simp;omega
   have a2:((E:Int)=0)=True:=by simp;omega
   have b1:((hi:Int)==0)=true:=by simp;omega
   have b2:((hi:Int)=0)=True:=by simp;omega
   have c1:((value:Int)==0)=true:=by simp;omega
   have c2:((value:Int)=0)=True:=by simp;omega
   clear h hx;go_enter Tryz.func68,Tryz.ntmps68;go_wp2;go_ret;exact⟨rfl,HB.out⟩
 . simp only[gQ,zd,beq_iff_eq] at h
   have hx:=h;have a1:((E:Int)==0)=true:=by simp;omega
   have a2:((E:Int)=0)=True:=by simp;omega
   have b1:((hi:Int)==0)=true:=by simp;omega
   have b2:((hi:Int)=0)=True:=by simp;omega
   have c1:((value:Int)==0)=true:=by simp;omega
   have c2:((value:Int)=0)=True:=by simp;omega
   clear h hx;go_enter Tryz.func68,Tryz.ntmps68;go_wp2;go_ret;exact⟨rfl,HB.out⟩
theorem DR (o:En.Op) (w:World):zk 69 #[.agg #[I o.kind,I o.E,I o.hi,I o.value]] w fun e G=>e=.returned (.bool (iB o))∧Below w.heap.size w G:=by
 have Z:Below w.heap.size w (w.alloc (.cells #[I o.kind,I o.E,I o.hi,I o.value] 27)):=(Below.refl _ _).alloc (zr _) _;have HB:=U Z;clear Z;have he:iB o=(decide (o.kind=6)||decide (o.kind=7)):=by unfold iB;by_cases h1:o.kind=6<;>by_cases h2:o.kind=7<;>simp[h1,h2]
 rw[he];clear he;generalize o.kind=kd at*
 by_cases h6:kd=6
 . subst h6
   go_enter Tryz.func69,Tryz.ntmps69;go_wp2;go_ret;exact⟨rfl,HB.out⟩
 . have a1:((kd:Int)==6)=false:=by simp;omega
   have a2:((kd:Int)=6)=False:=by simp;omega
   by_cases h7:kd=7
   . have b1:((kd:Int)==7)=true:=by simp;omega
     have b2:((kd:Int)=7)=True:=by simp;omega
     have HX:=U (zA h6 h7);clear h6 h7;go_enter Tryz.func69,Tryz.ntmps69;go_wp2;go_ret;exact⟨by simp[HX.out.1,HX.out.2],HB.out⟩
   . have b1:((kd:Int)==7)=false:=by simp;omega
     have b2:((kd:Int)=7)=False:=by simp;omega
     have HX:=U (zA h6 h7);clear h6 h7;go_enter Tryz.func69,Tryz.ntmps69;go_wp2;go_ret;exact⟨by simp[HX.out.1,HX.out.2],HB.out⟩
theorem DT (l:Nat) (h1:1<=l) (h2:l<=3) (w:World):zk 41 #[I l] w fun e G=>e=.returned (.bool true)∧w=G:=by
 have d1:decide ((1:Int)<=(l:Int))=true:=by simp;omega
 have d2:decide ((l:Int)<=3)=true:=by simp;omega
 have e1:((1:Int)<=(l:Int))=True:=by simp;omega
 have e2:((l:Int)<=3)=True:=by simp;omega
 have g1:(1<=l)=True:=by simp;omega
 have g2:(l<=3)=True:=by simp;omega
 have g3:(0<l)=True:=by simp;omega
 clear h1 h2;go_enter Tryz.func41,Tryz.ntmps41;go_wp2;go_ret;exact⟨rfl,rfl⟩
theorem oO {A:au} {D:St} {w:World} (hL:Live A D w) (s:Nat) (hs:s<8) (t:bB) (ht:D.ag.getD s none=some t) (c:dF) (hc:D.calls.getD s none=some c) (k:K) (V:c.k=some k) (aQ:D.count<3000000000000000000) (az:St) (ok:Option K) (aN:(D.aF s {c with waits:=false}).run s k=(az,ok)) (HS:yw (D.aF s {c with waits:=false}) s k) (c2:dF) (hc2:az.calls.getD s none=some c2) (dl:Nat) (hdl:az.count=D.count+dl) (hd1:dl<1000000) (hlk:az.aL<1000000000000000000) (hcq:∀ q,q≠s->az.calls.getD q none=D.calls.getD q none) (hok:ok=none) (hw:c2.waits=false) (hov:c2.over=true) (hpr:c2.r.aB=[]) (hro:c2.r.over≠0):
 zk 34 #[R A.Y 0,I s] w (Stepped A w ({az.aF s {c2 with k:=ok} with aL:=az.aL+dl,calls:=(az.aF s {c2 with k:=ok}).calls.set s none,ag:=az.ag.set s none}) 3 c2.r):=by
 have IK:Hid (az.sw=D.sw∧az.cut=D.cut):=U (by have h:=Cn (D.aF s {c with waits:=false}) s k;rw[aN] at h;exact h);obtain⟨Q,hQ⟩:∃ Q,Q=Stepped A w ({az.aF s {c2 with k:=ok} with aL:=az.aL+dl,calls:=(az.aF s {c2 with k:=ok}).calls.set s none,ag:=az.ag.set s none}) 3 c2.r:=⟨_,rfl⟩
 rw[<-hQ];have HQ:=U hQ;clear hQ;obtain⟨r0,g0,fl,fh⟩:=hL.rep.lg (.cells #[I 0,I 0,I 0,.slice none 0 0,I 0,I 0] 81);obtain⟨Gv,k0,hk0,hkr⟩:=hL.call s hs c hc;obtain rfl:k=k0:=by rw[V] at hk0;exact zj hk0
 obtain⟨fv,fb,fc,Gw,hent⟩:=hkr.enter;have ll:=U (gu s hs);have b1:(s:Int)<8:=by omega
 have b0:(0:Int)<=(s:Int):=by omega
 have v0:(w.alloc (.cells #[I 0,I 0,I 0,.slice none 0 0,I 0,I 0] 81)).cell? (J A.Y (13+s))=zs (A.bc s) 0:=by rw[<-show A.bG s=R (A.bc s) 0 from Gv];exact r0.eH (13+s) (eF (A.tmp w.heap.size) D hs)
 have v1:(w.alloc (.cells #[I 0,I 0,I 0,.slice none 0 0,I 0,I 0] 81)).cell? (J A.Y (5+s))=zs (A.bt s) 0:=by
  have h:=r0.eH (5+s) (dV (A.tmp w.heap.size) D hs);have e:(A.tmp w.heap.size).tp D s=R (A.bt s) 0:=by unfold au.tp;rw[ht];rfl
  rw[e] at h;exact h
 obtain⟨aH,kH⟩:∃ aH,aH=D.aF s {c with waits:=false}:=⟨_,rfl⟩
 rw[<-kH] at aN HS;have hc1:aH.calls.getD s none=some {c with waits:=false}:=by rw[kH,bS (bH hc),aV rfl]
 have hkp:kp A aH s=kp A D s:=by unfold kp;rw[aU hc1,aU hc]
 have H5:Hid (∀ n w5,(w.alloc (.cells #[I 0,I 0,I 0,.slice none 0 0,I 0,I 0] 81)).drewN n=w5->zB w5 (A.bc s) 10 c.waits∧w5.frozen? (J (A.bc s) 10)=false∧∀ w6,w5.setCell (J (A.bc s) 10) (.bool false)=w6->zS w6 A.Y 2 A.ba 0∧w6.cell? (J (A.bc s) 4)=some (.func (.func fv) fb fc)∧zk 71 #[R A.ba 0] w6 (fun e G=>e=.returned (I (D.count:Int))∧w6=G)∧zk fv (fb++fc) w6 (jO (A.tmp w.heap.size) w6 s (az,ok))∧Grow A.L w (A.tmp w.heap.size).L w6∧((A.tmp w.heap.size).L w.heap.size=some .tmp∧w6.heap[w.heap.size]? =some (.cells #[I 0,I 0,I 0,.slice none 0 0,I 0,I 0] 81))):=by
  rintro n w5 rfl;have r5:=r0.drewN n;refine⟨r5.call hc 10 rfl,r5.nT hc 10,?_⟩;rintro w6 rfl;obtain⟨r6,g6⟩:=r5.qg hc {c with waits:=false} 10 (.bool false) rfl rfl;have vQ:=(Grow.drewN (A.tmp w.heap.size).L (w.alloc (.cells #[I 0,I 0,I 0,.slice none 0 0,I 0,I 0] 81)) n).trans g6;have gg:=g0.trans vQ;rw[<-kH] at r6;have h4:_=some (A.aW s):=r6.call hc1 4 rfl;rw[Gw] at h4;have h4':(((w.alloc (.cells #[I 0,I 0,I 0,.slice none 0 0,I 0,I 0] 81)).drewN n).setCell (J (A.bc s) 10) (.bool false)).cell? (J (A.bc s) 4)=some (.func (.func fv) fb fc):=h4;have Lb:=(hkr.grow gg)
  rw[Gw,<-hkp] at Lb;have hS:=HS (A.tmp w.heap.size) _ fv fb fc r6 hL.mp (hL.mt s) Lb;rw[aN] at hS;have hcn:=kT r6 (by rw[kH];exact Nat.lt_trans aQ (by decide));have hcc:aH.count=D.count:=by rw[kH];rfl
  rw[hcc] at hcn;exact⟨r6.eH 2 rfl,h4',hcn,hS,gg,bX ⟨fl,fh⟩ vQ⟩
 have sW:=U hL;have HF:=U (zA hc2 (zA hdl (zA hcq (zA hs hlk))));have n1:IntKind.i64.wrap (((D.count+dl:Nat):Int) - (D.count:Int))=(dl:Int):=by rw[jH];omega
 have n2:IntKind.i64.wrap ((az.aL:Int)+(dl:Int))=((az.aL+dl:Nat):Int):=by rw[jH];omega
 have H7 : Hid (∀ A2 w2 v A3, A3 = { A2 with aW := jI A2.aW s v } -> aD A2 az w2 -> bL (A.tmp w.heap.size) A2 s -> w2.cell? (J (A.bc s) 4) = some (A2.aW s) ∧ w2.frozen? (J (A.bc s) 4) = false ∧ ∀ w3, w2.setCell (J (A.bc s) 4) v = w3 -> zT w3 A.Y 23 (az.aL : Int) ∧ w3.frozen? (J A.Y 23) = false ∧ zS w3 A.Y 2 A.ba 0 ∧ zk 71 #[R A.ba 0] w3.drew (fun e G => e = .returned (I ((D.count + dl : Nat) : Int)) ∧ G = w3.drew) ∧
     ∀ w4,w3.drew.setCell (J A.Y 23) (I ((az.aL+dl:Nat):Int))=w4->aD A3 ({az.aF s {c2 with k:=ok} with aL:=az.aL+dl}) w4∧Grow A2.L w2 A2.L w4∧zB w4 (A.bc s) 10 c2.waits∧zB w4 (A.bc s) 11 c2.over):=by
  intro A2 w2 v A3 hA3 q st;have uy:A2.bc=A.bc:=st.bc;have Lc:A2.Y=A.Y:=st.Y;have OC:A2.ba=A.ba:=st.ba;have x4:=q.call hc2 4 (v:=A2.aW s) rfl;have z4:=q.nT hc2 4;rw[uy] at x4 z4;refine⟨x4,z4,?_⟩;rintro w3 rfl;obtain⟨r3,g3⟩:=q.qm hc2 v ok;rw[<-hA3,uy] at r3;rw[uy] at g3;have e3:A3.Y=A.Y:=by rw[hA3];exact Lc
  have OD:A3.ba=A.ba:=by rw[hA3];exact OC
  have OE:A3.bc=A.bc:=by rw[hA3];exact uy
  have OG:A3.L=A2.L:=by rw[hA3]
  have y23:=r3.eH 23 (v:=I (az.aL:Int)) rfl;have z23:=r3.pK 23;have y2:=r3.eH 2 (v:=R A3.ba 0) rfl;have hcn:=flip (kT r3.drew (by show az.count<_;omega));rw[e3] at y23 z23 y2;rw[OD] at hcn y2;rw[show (az.aF s {c2 with k:=ok}).count=D.count+dl from hdl] at hcn;refine⟨y23,z23,y2,hcn,?_⟩;intro w4 hw4;obtain⟨r4,g4⟩:=r3.drew.tJ (az.aL+dl);rw[e3,hw4] at r4 g4;rw[OG] at g4;have hc4:({az.aF s {c2 with k:=ok} with aL:=az.aL+dl}:St).calls.getD s none=some {c2 with k:=ok}:=by show (az.aF s {c2 with k:=ok}).calls.getD s none=_;rw[bS (bH hc2),aV rfl]
  have Co:=r4.call hc4 10 (v:=.bool c2.waits) rfl;have DL:=r4.call hc4 11 (v:=.bool c2.over) rfl;rw[OE] at Co DL;exact⟨r4,(g3.trans (Grow.drew _ _)).trans g4,Co,DL⟩
 have hwx:(w.alloc (.cells #[I 0,I 0,I 0,.slice none 0 0,I 0,I 0] 81)).cell? (J (A.bc s) 10)=zb c.waits:=r0.call hc 10 rfl;have Qr:=U Gv;clear hL ht hc V aQ aN HS hc2 hdl hd1 hlk hcq r0 g0 fl fh Gv hk0 hkr Gw kH hc1 hkp hs;generalize (D.count:Int)=ca at*;generalize ((D.count+dl:Nat):Int)=cb at*;generalize ((az.aL+dl:Nat):Int)=lb at*;go_enter Tryz.func34,Tryz.ntmps34;go_wp2_with (go_at_call 40;refine (ll.out _).mono ?_;rintro e G ⟨rfl,rfl⟩);generalize hw0:w.alloc _=w0 at*
 go_quiet (fail)
 generalize iG:w0.drewN _=w5;obtain⟨NF,FH,h6⟩:=H5.out _ w5 iG;obtain⟨y2,y4,hcn,hS,gg,fD⟩:=h6 _ rfl;have HC:=U hcn;have HX:=U (zA hS (zA gg fD));clear hcn hS gg fD h6 iG hw0 H5 v0 v1 hwx;go_wp2_with (go_at_call 71;refine HC.out.mono ?_;rintro e G ⟨rfl,rfl⟩);refine HX.out.1.mono ?_;rintro e w2 ⟨A2,v,rfl,q1,q2,q3,q4⟩;subst hok;have hv:v=.nilFunc:=q4;clear q4;subst hv;obtain⟨x4,z4,h3⟩:=H7.out A2 w2 .nilFunc _ rfl q1 q3;obtain⟨y23,z23,y2',hcn,h4⟩:=h3 _ rfl;have OH:=U hcn;have DN:=U (zA q1 (zA q2 (zA q3 h4)));clear hcn h3 h4 q1 q2 q3 H7 NF FH y2 y4;go_wp2_with fail;generalize hw3:w2.setCell (J (A.bc s) 4) .nilFunc=w3 at*;refine wp_region_still_tail 14 (by kernel_rfl) (by kernel_rfl) ?_;simp only[jk,jl,jm,jo]
 repeat still_step
 still_call OH.out
 repeat still_step
 refine wpStill_nil ?_;change wpList _ _ _ _ _ w3.drew;have OJ:w3.drew.cell? (J A.Y 23)=zt (az.aL:Int):=y23;have OL:w3.drew.frozen? (J A.Y 23)=false:=z23;generalize w3.drew=wd at*;obtain⟨r4,g4,Co,DL⟩:=DN.out.2.2.2 _ rfl;rw[hw] at Co;rw[hov] at DL;obtain⟨hc2,hdl,hcq,hs,_⟩:=HF.out;have q3:=DN.out.2.2.1;have Lc:A2.Y=A.Y:=q3.Y;have uy:A2.bc=A.bc:=q3.bc;have hc4:({az.aF s {c2 with k:=none} with aL:=az.aL+dl}:St).calls.getD s none=some {c2 with k:=none}:=by show (az.aF s {c2 with k:=none}).calls.getD s none=_;rw[bS (bH hc2),aV rfl]
 have m13:=r4.eH (13+s) (eF {A2 with aW:=jI A2.aW s .nilFunc} _ hs);have FJ:=r4.pK (13+s);obtain⟨r5,g5⟩:=r4.qj hs (.pointer none);have m8:=r5.call hc4 8 (v:=I c2.r.over) rfl;have m5:=r5.eH (5+s) (dV {A2 with aW:=jI A2.aW s .nilFunc,bG:=jI A2.bG s (.pointer none)} _ hs);have z5:=r5.pK (5+s);obtain⟨r6,g6⟩:=r5.I1 hs;have aS:=r6.mem.all (.aB s);rw[gL (A:={A2 with aW:=jI A2.aW s .nilFunc,bG:=jI A2.bG s (.pointer none)}) (D:={({az.aF s {c2 with k:=none} with aL:=az.aL+dl}:St) with ag:=({az.aF s {c2 with k:=none} with aL:=az.aL+dl}:St).ag.set s none}) hc4] at aS;obtain⟨pa,vX,hpv,_⟩:=Ow.bD aS.1;rw[show ({c2 with k:=none}:dF).r.aB.length=0 by rw[show ({c2 with k:=none}:dF).r.aB=[] from hpr];rfl] at hpv;have p0:=r6.call hc4 5 (v:=I c2.r.e) rfl;have p1:=r6.call hc4 6 (v:=I c2.r.value) rfl;have p2:=r6.call hc4 7 (v:=A2.aR s) rfl;have p3:=r6.call hc4 8 (v:=I c2.r.over) rfl;have p4:=r6.call hc4 9 (v:=I c2.r.ay) rfl;rw[show A2.aR s=.slice pa 0 vX from hpv] at p2;simp only[Lc,uy] at m13 FJ r5 g5 m8 m5 z5 r6 g6 p0 p1 p2 p3 p4;have d1:((c2.r.over:Int)==0)=false:=by simp;omega
 have d2:((c2.r.over:Int) !=0)=true:=by simp;omega
 have d3:((c2.r.over:Int)=0)=False:=by simp;omega
 have fD:=bX (bX (bX (bX HX.out.2.2 DN.out.2.1) g4) g5) g6;have HY:=U (zA r6 (zA (((g4.trans g5).trans g6)) (zA fD (zA hpr hro))));have Uz:=U (Ch (((wd.setCell (J A.Y 23) (I lb)).setCell (J A.Y (13+s)) (.pointer none)).setCell (J A.Y (5+s)) (.pointer none)) c2.r.e c2.r.value c2.r.over c2.r.ay pa vX);clear r4 g4 r5 g5 r6 g6 fD aS hpv q3 Lc uy hc4 hc2 hdl hcq hw hov hpr hro;go_wp2_with (first|(go_at_call 53;refine Uz.out.mono ?_;rintro e w7 ⟨rfl,Z⟩;have Ro:=U Z;have vR:=U (ik (bX HY.out.2.2.1 (Grow.below (L:=A2.L) Z)).2);clear Z)|(refine wpList_store_mid rfl 81 (.tmp 4) (.tmp 115) rfl w.heap.size 0 #[I 3,I c2.r.e,I c2.r.value,.slice none 0 0,I c2.r.over,I c2.r.ay] rfl rfl vR.out (by kernel_rfl) (by simp[Value.oneCell']) ?_;generalize hws:World.setCells _ _ _ _=ws));have dW:=But.setCells w.heap.size [I 3,I c2.r.e,I c2.r.value,.slice none 0 0,I c2.r.over,I c2.r.ay] 0 w7;have fD:=bX HY.out.2.2.1 (Grow.below (L:=A2.L) Ro.out);have hfin:=jC fD.2 (I 3) (I c2.r.e) (I c2.r.value) (.slice none 0 0) (I c2.r.over) (I c2.r.ay);rw[show w7.setCells w.heap.size 0 [I 3,I c2.r.e,I c2.r.value,.slice none 0 0,I c2.r.over,I c2.r.ay]=ws from hws] at dW hfin
 (try simp only[Exit.inBlock,Exit.then])
 refine bodyPost_ret (dP rfl _ _ w.heap.size 81 #[I 3,I c2.r.e,I c2.r.value,.slice none 0 0,I c2.r.over,I c2.r.ay] _ _ rfl hfin Tryz.underlying81 rfl (by kernel_rfl)) rfl ?_;rw[HQ.out];obtain⟨hc2,hdl,hcq,hs,_⟩:=HF.out;obtain⟨q1,q2,q3,_⟩:=DN.out;obtain⟨r6,g6,_,hpr,hro⟩:=HY.out;have r7:=((r6.below Ro.out).zy s).but fD.1 dW;have gg:=((((HX.out.2.1.trans q2).trans g6).trans (Grow.below (L:=A2.L) Ro.out)).but (zr _) dW)
 have hlen:s<(az.aF s {c2 with k:=none}).calls.length:=by have:=bH hc2;simpa [St.aF] using this
 have hns:((az.aF s {c2 with k:=none}).calls.set s none).getD s none=none:=by rw[jy _ _ _ _ _ hlen,aV rfl]
 refine⟨{A2 with Y:=A.Y,bc:=A.bc,aW:=jI A2.aW s .nilFunc,bG:=jI A2.bG s (.pointer none)},.slice none 0 0,rfl,by rw[hpr];exact dQ.nil _ _ _,Live.of (s:=s) sW.out IK.out r7 gg ⟨(by show (A.Y,A2.Qm)=_;rw[show A2.Qm=A.Qm from congrArg (·.2) q3.bf];rfl),q3.mp,q3.mt,fun q _=>congrFun q3.bt q,fun q _=>rfl,q3.bx,q3.aR,fun q hq=>(bz _ _ hq).trans (congrFun q3.aW q),fun q hq=>(bz _ _ hq).trans (congrFun q3.bG q)⟩ (fun q hq=>?_) (fun c' hcc=>?_) (fun hnn=>kg _ _ _),gg,rfl⟩
 . show ((az.aF s {c2 with k:=none}).calls.set s none).getD q none=_
   rw[jy _ _ _ _ _ hlen,aX hq,bS (bH hc2),aX hq];exact hcq q hq
 . have h0:=hns.symm.trans hcc
   cases h0
variable {A:au} {D:St} {w:World}
def yD (FK:St) (s:Nat):Prop:=∀ A w,aD A FK w->A.mp=0->zk 70 #[R A.Y 0,R (A.bt s) 0,R (A.bc s) 0] w (aZ A w s (FK.first s))
def Ct (A:au) (w:World) (bE:St) (err:Int):Ending->World->Prop:=fun e G=>∃ A',e=.returned (I err)∧Live A' bE G∧Grow A.L w A'.L G∧A'.Y=A.Y
def fJ (o:En.Op) (q:Nat):dF:={op:=o,k:=none,r:={},waits:=false,over:=false,seq:=q}
theorem wW {D:St} {s q:Nat} (c:dF) (h:q≠s):(D.aF s c).calls.getD q none=D.calls.getD q none:=by
 unfold St.aF;simp only[mM,List.getElem?_set];rw[aX (Ne.symm h)]
theorem Cu (hL:Live A D w) (s:Nat) (hs:s<8) (t:bB) (ht:D.ag.getD s none=some t) (o:En.Op) (ho:jK o=true) (he:iB o=true) (hn:D.calls.getD s none=none) (hop:t.ops<1000000) (vY:D.seq<4000000000000000000)
 (HF:yD (({D with seq:=D.seq+1}:St).aF s (fJ o (D.seq+1))) s) (dL:St) (k:K) (hf:(({D with seq:=D.seq+1}:St).aF s (fJ o (D.seq+1))).first s=(dL,k)) (c4:dF) (hc4:dL.calls.getD s none=some c4) (hcq:∀ q,q≠s->dL.calls.getD q none=D.calls.getD q none):
 zk 33 #[R A.Y 0,I s,.agg #[I o.kind,I o.E,I o.hi,I o.value]] w (Ct A w (dL.aF s {c4 with k:=some k}) 0):=by
 have IK:Hid (dL.sw=D.sw∧dL.cut=D.cut):=U (by have h:=Ai (({D with seq:=D.seq+1}:St).aF s (fJ o (D.seq+1))) s;rw[hf] at h;exact h);obtain⟨r0,g0,f0⟩:=cB hL.rep #[I o.kind,I o.E,I o.hi,I o.value] 27;have ll:=U (gu s hs);have hok:=U (wV o ho);have hen:=U (DR o);rw[he] at hen;have b1:(s:Int)<8:=by omega
 have b0:(0:Int)<=(s:Int):=by omega
 have hV:∀ (A':au) (bE:St) G,aD A' bE G->A'.Y=A.Y->A'.bt=A.bt->A'.bG=A.bG->(∃ t',bE.ag.getD s none=some t')->zS G A.Y (5+s) (A.bt s) 0∧G.cell? (J A.Y (13+s))=some (.pointer none):=by
  rintro A' bE G r e1 e2 e3 ⟨t',ht'⟩;have h:=r.eH (5+s) (dV A' bE hs);have h2:=r.eH (13+s) (eF A' bE hs);have e:A'.tp bE s=R (A.bt s) 0:=by unfold au.tp;rw[ht',e2]
  rw[e,e1] at h;rw[e1,e3,hL.idle s hs hn] at h2;exact⟨h,h2⟩
 have HW:Hid (∀ G,Below (w.alloc (.cells #[I o.kind,I o.E,I o.hi,I o.value] 27)).heap.size (w.alloc (.cells #[I o.kind,I o.E,I o.hi,I o.value] 27)) G->aD A D G∧Grow A.L w A.L G∧Fix A.L G w.heap.size (.cells #[I o.kind,I o.E,I o.hi,I o.value] 27)∧zS G A.Y (5+s) (A.bt s) 0∧G.cell? (J A.Y (13+s))=some (.pointer none)∧zT G (A.bt s) 5 t.ops∧G.frozen? (J (A.bt s) 5)=false∧zT G A.Y 22 (D.seq:Int)∧G.frozen? (J A.Y 22)=false):=by
  intro G Z;have r:=r0.below Z;have gb:=Grow.below (L:=A.L) Z;obtain⟨v1,v2⟩:=hV A D G r rfl rfl rfl ⟨t,ht⟩;exact⟨r,g0.trans gb,f0.grow gb,v1,v2,r.dZ ht 5 rfl,r.tH ht 5,r.eH 22 rfl,r.pK 22⟩
 obtain⟨_,_,_,v1,v2,v3,v4,v5,v6⟩:=HW.out _ (Below.refl _ _);have sW:=U (zA hL (zA ht (zA hn (zA hs (zA hc4 hcq)))));have O7:=U (zA HF hf);have hd:(decide ((12:Int)<=(t.ops:Int))=false∧((12:Int)<=(t.ops:Int))=False∧(12<=t.ops)=False)∨(decide ((12:Int)<=(t.ops:Int))=true∧((12:Int)<=(t.ops:Int))=True∧(12<=t.ops)=True∧Hid (0=0)):=by
  rcases Nat.lt_or_ge t.ops 12 with h|h
  . exact .inl ⟨by simp;omega,by simp;omega,by simp;omega⟩
  . exact .inr ⟨by simp;omega,by simp;omega,by simp;omega,U rfl⟩
 have n1:IntKind.i64.wrap ((t.ops:Int)+1)=(t.ops:Int)+1:=by rw[jH];omega
 have n2:IntKind.i64.wrap ((D.seq:Int)+1)=(D.seq:Int)+1:=by rw[jH];omega
 clear hL r0 g0 f0 hs ho he hn hop vY HF hf hc4 hcq hV ht
 rcases hd with ⟨d1,d2,d3⟩|⟨d1,d2,d3,TA⟩
 all_goals (
  go_enter Tryz.func33,Tryz.ntmps33
  go_wp2_with (first|(go_at_call 40;refine (ll.out _).mono ?_;rintro e G ⟨rfl,rfl⟩)|(go_at_call 68;refine (hok.out _).mono ?_;rintro e H ⟨rfl,Z⟩;obtain⟨r1,g1,f1,x1,x2,x3,x4,x5,x6⟩:=HW.out H Z;have y0:=f1.cell 0 (v:=I o.kind) rfl;have y1:=f1.cell 1 (v:=I o.E) rfl;have y2:=f1.cell 2 (v:=I o.hi) rfl;have y3:=f1.cell 3 (v:=I o.value) rfl;have H1:=U Z;clear r1 g1 f1 Z)|(go_at_call 69;refine (hen.out _).mono ?_;rintro e H ⟨rfl,hb2⟩;clear TA;obtain⟨r1,g1,f1,x1,x2,x3,x4,x5,x6⟩:=HW.out H (H1.out.trans (hb2.mono H1.out.size));have y0:=f1.cell 0 (v:=I o.kind) rfl;have y1:=f1.cell 1 (v:=I o.E) rfl;have y2:=f1.cell 2 (v:=I o.hi) rfl;have y3:=f1.cell 3 (v:=I o.value) rfl;have Tj:=U (H1.out.trans (hb2.mono H1.out.size));clear r1 g1 f1 hb2 H1;have H1:=Tj;clear Tj)|(go_at_call 69;refine (hen.out _).mono ?_;rintro e w2 ⟨rfl,hb2⟩;obtain⟨r1,g1,f1,x1,x2,x3,x4,x5,x6⟩:=HW.out w2 (H1.out.trans (hb2.mono H1.out.size));have y0:=f1.cell 0 (v:=I o.kind) rfl;have y1:=f1.cell 1 (v:=I o.E) rfl;have y2:=f1.cell 2 (v:=I o.hi) rfl;have y3:=f1.cell 3 (v:=I o.value) rfl;have H2:=U (zA r1 (zA g1 f1));clear r1 g1 f1 hb2))
  obtain⟨r1,g1,f1⟩:=H2.out
  obtain⟨hL,ht,hn,hs,hc4,hcq⟩:=sW.out
  obtain⟨ra,JW⟩:=r1.FO (D.seq+1)
  rw[show ((D.seq+1:Nat):Int)=(D.seq:Int)+1 from rfl] at ra JW
  have ga:=g1.trans JW
  have fa:=f1.grow JW
  clear JW
  generalize w2.setCell (J A.Y 22) (I ((D.seq:Int)+1))=w3 at*
  have hseq:=ra.eH 22 (v:=I ((D.seq:Int)+1)) rfl
  have o0:=fa.cell 0 (v:=I o.kind) rfl
  have o1:=fa.cell 1 (v:=I o.E) rfl
  have o2:=fa.cell 2 (v:=I o.hi) rfl
  have o3:=fa.cell 3 (v:=I o.value) rfl
  have hB:Below w3.heap.size w3 (w3.alloc (.cells #[I o.kind,I o.E,I o.hi,I o.value,.nilFunc,I 0,I 0,.slice none 0 0,I 0,I 0,.bool false,.bool false,I ((D.seq:Int)+1)] 141)).drew:=((Below.refl _ _).alloc (zr _) _).drew
  have hblk:(w3.alloc (.cells #[I o.kind,I o.E,I o.hi,I o.value,.nilFunc,I 0,I 0,.slice none 0 0,I 0,I 0,.bool false,.bool false,I ((D.seq:Int)+1)] 141)).drew.heap[w3.heap.size]? =some (.cells (eD (A.fQ s w3.heap.size .nilFunc) s (fJ o (D.seq+1))).toArray 141):=by
   rw[show (eD (A.fQ s w3.heap.size .nilFunc) s (fJ o (D.seq+1))).toArray=#[I o.kind,I o.E,I o.hi,I o.value,.nilFunc,I 0,I 0,.slice none 0 0,I 0,I 0,.bool false,.bool false,I ((D.seq:Int)+1)] by simp[eD,au.fQ,jI,fJ]]
   exact heap_alloc_new w3 _
  have hn1:({D with seq:=D.seq+1}:St).calls.getD s none=none:=hn
  obtain⟨rb,gb⟩:=ra.fQ hB hs (zr _) .nilFunc (fJ o (D.seq+1)) rfl hblk hn1
  obtain⟨A1,hA1⟩:∃ A1:au,A1=A.fQ s w3.heap.size .nilFunc:=⟨_,rfl⟩
  rw[<-hA1] at rb gb
  have e1:A1.Y=A.Y:=by rw[hA1];rfl
  have e2:A1.bt=A.bt:=by rw[hA1];rfl
  have e3:A1.bc s=w3.heap.size:=by rw[hA1];exact aV rfl
  have e4:A1.mp=A.mp:=by rw[hA1];rfl
  have Mq:=O7.out.1 A1 _ rb (e4.trans hL.mp)
  rw[O7.out.2,e1,e2,e3] at Mq
  have hst:∀ A5:au,bL A1 A5 s->wS A A5 s:=fun A5 st=>by
   refine⟨st.bf.trans (by rw[hA1];rfl),st.mp.trans e4,st.mt.trans (by rw[hA1];rfl),fun q _=>by rw[st.bt,e2],fun q hq=>by rw[st.bc,hA1];exact aX hq,fun q hq=>(st.bx q hq).trans (by rw[hA1];rfl),fun q hq=>(st.aR q hq).trans (by rw[hA1];exact bz _ _ hq),fun q hq=>by rw[st.aW,hA1];exact bz _ _ hq,fun q hq=>by rw[st.bG,hA1];rfl⟩
  have HN:Hid (∀ A5 w5 v A6,A6={A5 with aW:=jI A5.aW s v}->aD A5 dL w5->bL A1 A5 s->w5.cell? (J w3.heap.size 4)=some (A5.aW s)∧w5.frozen? (J w3.heap.size 4)=false∧aD A6 (dL.aF s {c4 with k:=some k}) (w5.setCell (J w3.heap.size 4) v)∧Grow A5.L w5 A5.L (w5.setCell (J w3.heap.size 4) v)∧(w5.setCell (J w3.heap.size 4) v).cell? (J A.Y (13+s))=some (A5.bG s)∧(w5.setCell (J w3.heap.size 4) v).frozen? (J A.Y (13+s))=false):=by
   intro A5 w5 v A6 Mr q st
   have uy:A5.bc s=w3.heap.size:=by rw[st.bc];exact e3
   have x4:=q.call hc4 4 (v:=A5.aW s) rfl
   have z4:=q.nT hc4 4
   obtain⟨r6,g6⟩:=q.qm hc4 v (some k)
   rw[<-Mr,uy] at r6
   rw[uy] at x4 z4 g6
   have e6:A6.Y=A.Y:=by rw[Mr];exact st.Y.trans e1
   have m13:=r6.eH (13+s) (eF A6 _ hs)
   have FJ:=r6.pK (13+s)
   rw[e6] at m13 FJ
   rw[show A6.bG=A5.bG by rw[Mr]] at m13
   exact⟨x4,z4,r6,g6,m13,FJ⟩
  have HY:=U (zA Mq (zA gb (zA ga (zA hst (zA e3 (zA e1 (zA hc4 (zA hcq hs))))))))
  clear hL ht hn hs hc4 hcq ra ga fa hB hblk hn1 rb gb hA1 e1 e2 e3 e4 Mq hst r1 g1 f1
  go_region
  generalize hw4:(w3.alloc _).drew=w4 at*
  clear hseq o0 o1 o2 o3 hw4
  go_wp2_with (go_at_call 70;refine HY.out.1.mono ?_;rintro e w5 ⟨A5,v,rfl,p1,p2,p3,p4⟩;obtain⟨f5,u5,u6,rfl,_⟩:=lL.enter p4;obtain⟨x4,z4,r6,g6,m13,FJ⟩:=HN.out A5 w5 (.func (.func f5) u5 u6) _ rfl p1 p3;have HP:=U (zA p2 (zA p3 (zA p4 (zA r6 g6))));clear p1 p2 p3 p4 r6 g6)
  go_ret
  obtain⟨_,gb,ga,hst,e3,e1,hc4,hcq,hs⟩:=HY.out
  obtain⟨p2,p3,p4,r6,g6⟩:=HP.out
  obtain⟨r7,g7⟩:=r6.qj hs (R w3.heap.size 0)
  obtain⟨A7,pV⟩:∃ A7:au,A7={A5 with aW:=jI A5.aW s (.func (.func f5) u5 u6),bG:=jI A5.bG s (R w3.heap.size 0)}:=⟨_,rfl⟩
  rw[show ({A5 with aW:=jI A5.aW s (.func (.func f5) u5 u6)}:au).Y=A.Y from p3.Y.trans e1] at g7
  have r8:aD A7 (dL.aF s {c4 with k:=some k}) ((w5.setCell (J w3.heap.size 4) (.func (.func f5) u5 u6)).setCell (J A.Y (13+s)) (R w3.heap.size 0)):=by
   rw[pV,<-show A5.Y=A.Y from p3.Y.trans e1]
   exact r7
  have O8:A7.L=A5.L:=by rw[pV]
  have gg:Grow A.L w A7.L ((w5.setCell (J w3.heap.size 4) (.func (.func f5) u5 u6)).setCell (J A.Y (13+s)) (R w3.heap.size 0)):=by
   rw[O8]
   exact (((ga.trans gb).trans p2).trans g6).trans g7
  have sq:=hst A5 p3
  have hc':(dL.aF s {c4 with k:=some k}).calls.getD s none=some {c4 with k:=some k}:=by rw[bS (bH hc4),aV rfl]
  refine⟨A7,rfl,Live.of (s:=s) sW.out.1 IK.out r8 gg ⟨by rw[pV];exact sq.bf,by rw[pV];exact sq.mp,by rw[pV];exact sq.mt,fun q hq=>by rw[pV];exact sq.bt q hq,fun q hq=>by rw[pV];exact sq.bc q hq,fun q hq=>by rw[pV];exact sq.bx q hq,fun q hq=>by rw[pV];exact sq.aR q hq,fun q hq=>by rw[pV];exact (bz _ _ hq).trans (sq.aW q hq),fun q hq=>by rw[pV];exact (bz _ _ hq).trans (sq.bG q hq)⟩ (fun q hq=>?_) (fun c' hcc=>?_) (fun hnn=>by have h0:=hc'.symm.trans hnn;cases h0),gg,by rw[pV];exact sq.Y⟩
  . rw[wW _ hq];exact hcq q hq
  . obtain rfl:{c4 with k:=some k}=c':=zj (hc'.symm.trans hcc)
    refine⟨?_,k,rfl,?_⟩
    . rw[pV]
      show jI A5.bG s _ s=ptr (A5.bc s)
      rw[kg,p3.bc,e3]
    . have ek:kp A7 (dL.aF s {c4 with k:=some k}) s=kp A5 dL s:=by unfold kp;rw[aU hc',aU hc4,pV]
      have ev:A7.aW s=.func (.func f5) u5 u6:=by rw[pV];exact kg _ _ _
      rw[ek,ev,O8]
      exact p4.grow (g6.trans g7)
 )
theorem AB (hL:Live A D w) (s:Nat) (hs:s<8) (t:bB) (ht:D.ag.getD s none=some t) (o:En.Op) (ho:jK o=true) (he:iB o=false) (hn:D.calls.getD s none=none) (hop:t.ops<12) (vY:D.seq<4000000000000000000)
 (HF:yD (({(D.bq s {t with ops:=t.ops+1}) with seq:=D.seq+1}:St).aF s (fJ o (D.seq+1))) s) (dL:St) (k:K) (hf:(({(D.bq s {t with ops:=t.ops+1}) with seq:=D.seq+1}:St).aF s (fJ o (D.seq+1))).first s=(dL,k)) (c4:dF) (hc4:dL.calls.getD s none=some c4) (hcq:∀ q,q≠s->dL.calls.getD q none=D.calls.getD q none):
 zk 33 #[R A.Y 0,I s,.agg #[I o.kind,I o.E,I o.hi,I o.value]] w (Ct A w (dL.aF s {c4 with k:=some k}) 0):=by
 have IK:Hid (dL.sw=D.sw∧dL.cut=D.cut):=U (by have h:=Ai (({(D.bq s {t with ops:=t.ops+1}) with seq:=D.seq+1}:St).aF s (fJ o (D.seq+1))) s;rw[hf] at h;exact h);obtain⟨r0,g0,f0⟩:=cB hL.rep #[I o.kind,I o.E,I o.hi,I o.value] 27;have ll:=U (gu s hs);have hok:=U (wV o ho);have hen:=U (DR o);rw[he] at hen;have b1:(s:Int)<8:=by omega
 have b0:(0:Int)<=(s:Int):=by omega
 have hV:∀ (A':au) (bE:St) G,aD A' bE G->A'.Y=A.Y->A'.bt=A.bt->A'.bG=A.bG->(∃ t',bE.ag.getD s none=some t')->zS G A.Y (5+s) (A.bt s) 0∧G.cell? (J A.Y (13+s))=some (.pointer none):=by
  rintro A' bE G r e1 e2 e3 ⟨t',ht'⟩;have h:=r.eH (5+s) (dV A' bE hs);have h2:=r.eH (13+s) (eF A' bE hs);have e:A'.tp bE s=R (A.bt s) 0:=by unfold au.tp;rw[ht',e2]
  rw[e,e1] at h;rw[e1,e3,hL.idle s hs hn] at h2;exact⟨h,h2⟩
 have HW:Hid (∀ G,Below (w.alloc (.cells #[I o.kind,I o.E,I o.hi,I o.value] 27)).heap.size (w.alloc (.cells #[I o.kind,I o.E,I o.hi,I o.value] 27)) G->aD A D G∧Grow A.L w A.L G∧Fix A.L G w.heap.size (.cells #[I o.kind,I o.E,I o.hi,I o.value] 27)∧zS G A.Y (5+s) (A.bt s) 0∧G.cell? (J A.Y (13+s))=some (.pointer none)∧zT G (A.bt s) 5 t.ops∧G.frozen? (J (A.bt s) 5)=false∧zT G A.Y 22 (D.seq:Int)∧G.frozen? (J A.Y 22)=false):=by
  intro G Z;have r:=r0.below Z;have gb:=Grow.below (L:=A.L) Z;obtain⟨v1,v2⟩:=hV A D G r rfl rfl rfl ⟨t,ht⟩;exact⟨r,g0.trans gb,f0.grow gb,v1,v2,r.dZ ht 5 rfl,r.tH ht 5,r.eH 22 rfl,r.pK 22⟩
 obtain⟨_,_,_,v1,v2,v3,v4,v5,v6⟩:=HW.out _ (Below.refl _ _);have sW:=U (zA hL (zA ht (zA hn (zA hs (zA hc4 hcq)))));have O7:=U (zA HF hf);have d1:decide ((12:Int)<=(t.ops:Int))=false:=by simp;omega
 have d2:((12:Int)<=(t.ops:Int))=False:=by simp;omega
 have d3:(12<=t.ops)=False:=by simp;omega
 have n1:IntKind.i64.wrap ((t.ops:Int)+1)=(t.ops:Int)+1:=by rw[jH];omega
 have n2:IntKind.i64.wrap ((D.seq:Int)+1)=(D.seq:Int)+1:=by rw[jH];omega
 clear hL r0 g0 f0 hs ho he hn hop vY HF hf hc4 hcq hV ht;go_enter Tryz.func33,Tryz.ntmps33;go_wp2_with (first|(go_at_call 40;refine (ll.out _).mono ?_;rintro e G ⟨rfl,rfl⟩)|(go_at_call 68;refine (hok.out _).mono ?_;rintro e H ⟨rfl,Z⟩;obtain⟨r1,g1,f1,x1,x2,x3,x4,x5,x6⟩:=HW.out H Z;have y0:=f1.cell 0 (v:=I o.kind) rfl;have y1:=f1.cell 1 (v:=I o.E) rfl;have y2:=f1.cell 2 (v:=I o.hi) rfl;have y3:=f1.cell 3 (v:=I o.value) rfl;have H1:=U Z;clear r1 g1 f1 Z)|(go_at_call 69;refine (hen.out _).mono ?_;rintro e w2 ⟨rfl,hb2⟩;obtain⟨r1,g1,f1,x1,x2,x3,x4,x5,x6⟩:=HW.out w2 (H1.out.trans (hb2.mono H1.out.size));have y0:=f1.cell 0 (v:=I o.kind) rfl;have y1:=f1.cell 1 (v:=I o.E) rfl;have y2:=f1.cell 2 (v:=I o.hi) rfl;have y3:=f1.cell 3 (v:=I o.value) rfl;have H2:=U (zA r1 (zA g1 f1));clear r1 g1 f1 hb2));obtain⟨r1,g1,f1⟩:=H2.out;obtain⟨hL,ht,hn,hs,hc4,hcq⟩:=sW.out;obtain⟨rt,gt⟩:=r1.BQ ht {t with ops:=t.ops+1} 5 (I ((t.ops:Int)+1)) rfl rfl rfl rfl rfl;obtain⟨ra,JW⟩:=rt.FO (D.seq+1);rw[show ((D.seq+1:Nat):Int)=(D.seq:Int)+1 from rfl] at ra JW;have ga:=(g1.trans gt).trans JW;have fa:=f1.grow (gt.trans JW);clear JW rt gt;generalize (w2.setCell (J (A.bt s) 5) (I ((t.ops:Int)+1))).setCell (J A.Y 22) (I ((D.seq:Int)+1))=w3 at*;have hseq:=ra.eH 22 (v:=I ((D.seq:Int)+1)) rfl;have o0:=fa.cell 0 (v:=I o.kind) rfl;have o1:=fa.cell 1 (v:=I o.E) rfl;have o2:=fa.cell 2 (v:=I o.hi) rfl;have o3:=fa.cell 3 (v:=I o.value) rfl;have hB:Below w3.heap.size w3 (w3.alloc (.cells #[I o.kind,I o.E,I o.hi,I o.value,.nilFunc,I 0,I 0,.slice none 0 0,I 0,I 0,.bool false,.bool false,I ((D.seq:Int)+1)] 141)).drew:=((Below.refl _ _).alloc (zr _) _).drew;have hblk:(w3.alloc (.cells #[I o.kind,I o.E,I o.hi,I o.value,.nilFunc,I 0,I 0,.slice none 0 0,I 0,I 0,.bool false,.bool false,I ((D.seq:Int)+1)] 141)).drew.heap[w3.heap.size]? =some (.cells (eD (A.fQ s w3.heap.size .nilFunc) s (fJ o (D.seq+1))).toArray 141):=by
  rw[show (eD (A.fQ s w3.heap.size .nilFunc) s (fJ o (D.seq+1))).toArray=#[I o.kind,I o.E,I o.hi,I o.value,.nilFunc,I 0,I 0,.slice none 0 0,I 0,I 0,.bool false,.bool false,I ((D.seq:Int)+1)] by simp[eD,au.fQ,jI,fJ]];exact heap_alloc_new w3 _
 have hn1:({(D.bq s {t with ops:=t.ops+1}) with seq:=D.seq+1}:St).calls.getD s none=none:=hn;obtain⟨rb,gb⟩:=ra.fQ hB hs (zr _) .nilFunc (fJ o (D.seq+1)) rfl hblk hn1;obtain⟨A1,hA1⟩:∃ A1:au,A1=A.fQ s w3.heap.size .nilFunc:=⟨_,rfl⟩
 rw[<-hA1] at rb gb;have e1:A1.Y=A.Y:=by rw[hA1];rfl
 have e2:A1.bt=A.bt:=by rw[hA1];rfl
 have e3:A1.bc s=w3.heap.size:=by rw[hA1];exact aV rfl
 have e4:A1.mp=A.mp:=by rw[hA1];rfl
 have Mq:=O7.out.1 A1 _ rb (e4.trans hL.mp);rw[O7.out.2,e1,e2,e3] at Mq;have hst:∀ A5:au,bL A1 A5 s->wS A A5 s:=fun A5 st=>by
  refine⟨st.bf.trans (by rw[hA1];rfl),st.mp.trans e4,st.mt.trans (by rw[hA1];rfl),fun q _=>by rw[st.bt,e2],fun q hq=>by rw[st.bc,hA1];exact aX hq,fun q hq=>(st.bx q hq).trans (by rw[hA1];rfl),fun q hq=>(st.aR q hq).trans (by rw[hA1];exact bz _ _ hq),fun q hq=>by rw[st.aW,hA1];exact bz _ _ hq,fun q hq=>by rw[st.bG,hA1];rfl⟩
 have HN:Hid (∀ A5 w5 v A6,A6={A5 with aW:=jI A5.aW s v}->aD A5 dL w5->bL A1 A5 s->w5.cell? (J w3.heap.size 4)=some (A5.aW s)∧w5.frozen? (J w3.heap.size 4)=false∧aD A6 (dL.aF s {c4 with k:=some k}) (w5.setCell (J w3.heap.size 4) v)∧Grow A5.L w5 A5.L (w5.setCell (J w3.heap.size 4) v)∧(w5.setCell (J w3.heap.size 4) v).cell? (J A.Y (13+s))=some (A5.bG s)∧(w5.setCell (J w3.heap.size 4) v).frozen? (J A.Y (13+s))=false):=by
  intro A5 w5 v A6 Mr q st;have uy:A5.bc s=w3.heap.size:=by rw[st.bc];exact e3
  have x4:=q.call hc4 4 (v:=A5.aW s) rfl;have z4:=q.nT hc4 4;obtain⟨r6,g6⟩:=q.qm hc4 v (some k);rw[<-Mr,uy] at r6;rw[uy] at x4 z4 g6;have e6:A6.Y=A.Y:=by rw[Mr];exact st.Y.trans e1
  have m13:=r6.eH (13+s) (eF A6 _ hs);have FJ:=r6.pK (13+s);rw[e6] at m13 FJ;rw[show A6.bG=A5.bG by rw[Mr]] at m13;exact⟨x4,z4,r6,g6,m13,FJ⟩
 have HY:=U (zA Mq (zA gb (zA ga (zA hst (zA e3 (zA e1 (zA hc4 (zA hcq hs))))))));clear hL ht hn hs hc4 hcq ra ga fa hB hblk hn1 rb gb hA1 e1 e2 e3 e4 Mq hst r1 g1 f1
 go_region
 generalize hw4:(w3.alloc _).drew=w4 at*;clear hseq o0 o1 o2 o3 hw4;go_wp2_with (go_at_call 70;refine HY.out.1.mono ?_;rintro e w5 ⟨A5,v,rfl,p1,p2,p3,p4⟩;obtain⟨f5,u5,u6,rfl,_⟩:=lL.enter p4;obtain⟨x4,z4,r6,g6,m13,FJ⟩:=HN.out A5 w5 (.func (.func f5) u5 u6) _ rfl p1 p3;have HP:=U (zA p2 (zA p3 (zA p4 (zA r6 g6))));clear p1 p2 p3 p4 r6 g6);go_ret;obtain⟨_,gb,ga,hst,e3,e1,hc4,hcq,hs⟩:=HY.out;obtain⟨p2,p3,p4,r6,g6⟩:=HP.out;obtain⟨r7,g7⟩:=r6.qj hs (R w3.heap.size 0);obtain⟨A7,pV⟩:∃ A7:au,A7={A5 with aW:=jI A5.aW s (.func (.func f5) u5 u6),bG:=jI A5.bG s (R w3.heap.size 0)}:=⟨_,rfl⟩
 rw[show ({A5 with aW:=jI A5.aW s (.func (.func f5) u5 u6)}:au).Y=A.Y from p3.Y.trans e1] at g7;have r8:aD A7 (dL.aF s {c4 with k:=some k}) ((w5.setCell (J w3.heap.size 4) (.func (.func f5) u5 u6)).setCell (J A.Y (13+s)) (R w3.heap.size 0)):=by
  rw[pV,<-show A5.Y=A.Y from p3.Y.trans e1];exact r7
 have O8:A7.L=A5.L:=by rw[pV]
 have gg:Grow A.L w A7.L ((w5.setCell (J w3.heap.size 4) (.func (.func f5) u5 u6)).setCell (J A.Y (13+s)) (R w3.heap.size 0)):=by
  rw[O8];exact (((ga.trans gb).trans p2).trans g6).trans g7
 have sq:=hst A5 p3;have hc':(dL.aF s {c4 with k:=some k}).calls.getD s none=some {c4 with k:=some k}:=by rw[bS (bH hc4),aV rfl]
 refine⟨A7,rfl,Live.of (s:=s) sW.out.1 IK.out r8 gg ⟨by rw[pV];exact sq.bf,by rw[pV];exact sq.mp,by rw[pV];exact sq.mt,fun q hq=>by rw[pV];exact sq.bt q hq,fun q hq=>by rw[pV];exact sq.bc q hq,fun q hq=>by rw[pV];exact sq.bx q hq,fun q hq=>by rw[pV];exact sq.aR q hq,fun q hq=>by rw[pV];exact (bz _ _ hq).trans (sq.aW q hq),fun q hq=>by rw[pV];exact (bz _ _ hq).trans (sq.bG q hq)⟩ (fun q hq=>?_) (fun c' hcc=>?_) (fun hnn=>by have h0:=hc'.symm.trans hnn;cases h0),gg,by rw[pV];exact sq.Y⟩
 . rw[wW _ hq];exact hcq q hq
 . obtain rfl:{c4 with k:=some k}=c':=zj (hc'.symm.trans hcc)
   refine⟨?_,k,rfl,?_⟩
   . rw[pV]
     show jI A5.bG s _ s=ptr (A5.bc s);rw[kg,p3.bc,e3]
   . have ek:kp A7 (dL.aF s {c4 with k:=some k}) s=kp A5 dL s:=by unfold kp;rw[aU hc',aU hc4,pV]
     have ev:A7.aW s=.func (.func f5) u5 u6:=by rw[pV];exact kg _ _ _
     rw[ek,ev,O8];exact p4.grow (g6.trans g7)
theorem Cv (hL:Live A D w) (s:Nat) (hs:s<8) (t:bB) (ht:D.ag.getD s none=some t) (c:dF) (hc:D.calls.getD s none=some c) (k:K) (V:c.k=some k) (aQ:D.count<3000000000000000000) (az:St) (ok:Option K) (aN:(D.aF s {c with waits:=false}).run s k=(az,ok)) (HS:yw (D.aF s {c with waits:=false}) s k) (c2:dF) (hc2:az.calls.getD s none=some c2) (dl:Nat) (hdl:az.count=D.count+dl) (hd1:dl<1000000) (hlk:az.aL<1000000000000000000) (hcq:∀ q,q≠s->az.calls.getD q none=D.calls.getD q none) (t2:bB) (ht2:az.ag.getD s none=some t2) (htl:az.aP.length<1000000) (hok:ok=none) (hw:c2.waits=false) (hov:c2.over=true) (hpr:c2.r.aB.length<=1000000) (hro:c2.r.over=0):
 zk 34 #[R A.Y 0,I s] w (Stepped A w (({az.aF s {c2 with k:=ok} with aL:=az.aL+dl,calls:=(az.aF s {c2 with k:=ok}).calls.set s none}:St).event {kind:=2,t:=t2.id,op:=c2.op,res:=c2.r}) 3 c2.r):=by
 have IK:Hid (az.sw=D.sw∧az.cut=D.cut):=U (by have h:=Cn (D.aF s {c with waits:=false}) s k;rw[aN] at h;exact h);obtain⟨Q,hQ⟩:∃ Q,Q=Stepped A w (({az.aF s {c2 with k:=ok} with aL:=az.aL+dl,calls:=(az.aF s {c2 with k:=ok}).calls.set s none}:St).event {kind:=2,t:=t2.id,op:=c2.op,res:=c2.r}) 3 c2.r:=⟨_,rfl⟩
 rw[<-hQ];have HQ:=U hQ;clear hQ;obtain⟨r0,g0,fl,fh⟩:=hL.rep.lg (.cells #[I 0,I 0,I 0,.slice none 0 0,I 0,I 0] 81);obtain⟨Gv,k0,hk0,hkr⟩:=hL.call s hs c hc;obtain rfl:k=k0:=by rw[V] at hk0;exact zj hk0
 obtain⟨fv,fb,fc,Gw,hent⟩:=hkr.enter;have ll:=U (gu s hs);have b1:(s:Int)<8:=by omega
 have b0:(0:Int)<=(s:Int):=by omega
 have v0:(w.alloc (.cells #[I 0,I 0,I 0,.slice none 0 0,I 0,I 0] 81)).cell? (J A.Y (13+s))=zs (A.bc s) 0:=by rw[<-show A.bG s=R (A.bc s) 0 from Gv];exact r0.eH (13+s) (eF (A.tmp w.heap.size) D hs)
 have v1:(w.alloc (.cells #[I 0,I 0,I 0,.slice none 0 0,I 0,I 0] 81)).cell? (J A.Y (5+s))=zs (A.bt s) 0:=by
  have h:=r0.eH (5+s) (dV (A.tmp w.heap.size) D hs);have e:(A.tmp w.heap.size).tp D s=R (A.bt s) 0:=by unfold au.tp;rw[ht];rfl
  rw[e] at h;exact h
 obtain⟨aH,kH⟩:∃ aH,aH=D.aF s {c with waits:=false}:=⟨_,rfl⟩
 rw[<-kH] at aN HS;have hc1:aH.calls.getD s none=some {c with waits:=false}:=by rw[kH,bS (bH hc),aV rfl]
 have hkp:kp A aH s=kp A D s:=by unfold kp;rw[aU hc1,aU hc]
 have H5:Hid (∀ n w5,(w.alloc (.cells #[I 0,I 0,I 0,.slice none 0 0,I 0,I 0] 81)).drewN n=w5->zB w5 (A.bc s) 10 c.waits∧w5.frozen? (J (A.bc s) 10)=false∧∀ w6,w5.setCell (J (A.bc s) 10) (.bool false)=w6->zS w6 A.Y 2 A.ba 0∧w6.cell? (J (A.bc s) 4)=some (.func (.func fv) fb fc)∧zk 71 #[R A.ba 0] w6 (fun e G=>e=.returned (I (D.count:Int))∧w6=G)∧zk fv (fb++fc) w6 (jO (A.tmp w.heap.size) w6 s (az,ok))∧Grow A.L w (A.tmp w.heap.size).L w6∧((A.tmp w.heap.size).L w.heap.size=some .tmp∧w6.heap[w.heap.size]? =some (.cells #[I 0,I 0,I 0,.slice none 0 0,I 0,I 0] 81))):=by
  rintro n w5 rfl;have r5:=r0.drewN n;refine⟨r5.call hc 10 rfl,r5.nT hc 10,?_⟩;rintro w6 rfl;obtain⟨r6,g6⟩:=r5.qg hc {c with waits:=false} 10 (.bool false) rfl rfl;have vQ:=(Grow.drewN (A.tmp w.heap.size).L (w.alloc (.cells #[I 0,I 0,I 0,.slice none 0 0,I 0,I 0] 81)) n).trans g6;have gg:=g0.trans vQ;rw[<-kH] at r6;have h4:_=some (A.aW s):=r6.call hc1 4 rfl;rw[Gw] at h4;have h4':(((w.alloc (.cells #[I 0,I 0,I 0,.slice none 0 0,I 0,I 0] 81)).drewN n).setCell (J (A.bc s) 10) (.bool false)).cell? (J (A.bc s) 4)=some (.func (.func fv) fb fc):=h4;have Lb:=(hkr.grow gg)
  rw[Gw,<-hkp] at Lb;have hS:=HS (A.tmp w.heap.size) _ fv fb fc r6 hL.mp (hL.mt s) Lb;rw[aN] at hS;have hcn:=kT r6 (by rw[kH];exact Nat.lt_trans aQ (by decide));have hcc:aH.count=D.count:=by rw[kH];rfl
  rw[hcc] at hcn;exact⟨r6.eH 2 rfl,h4',hcn,hS,gg,bX ⟨fl,fh⟩ vQ⟩
 have sW:=U hL;have HF:=U (zA hc2 (zA hdl (zA hcq (zA hs hlk))));have n1:IntKind.i64.wrap (((D.count+dl:Nat):Int) - (D.count:Int))=(dl:Int):=by rw[jH];omega
 have n2:IntKind.i64.wrap ((az.aL:Int)+(dl:Int))=((az.aL+dl:Nat):Int):=by rw[jH];omega
 have H7 : Hid (∀ A2 w2 v A3, A3 = { A2 with aW := jI A2.aW s v } -> aD A2 az w2 -> bL (A.tmp w.heap.size) A2 s -> w2.cell? (J (A.bc s) 4) = some (A2.aW s) ∧ w2.frozen? (J (A.bc s) 4) = false ∧ ∀ w3, w2.setCell (J (A.bc s) 4) v = w3 -> zT w3 A.Y 23 (az.aL : Int) ∧ w3.frozen? (J A.Y 23) = false ∧ zS w3 A.Y 2 A.ba 0 ∧ zk 71 #[R A.ba 0] w3.drew (fun e G => e = .returned (I ((D.count + dl : Nat) : Int)) ∧ G = w3.drew) ∧
     ∀ w4,w3.drew.setCell (J A.Y 23) (I ((az.aL+dl:Nat):Int))=w4->aD A3 ({az.aF s {c2 with k:=ok} with aL:=az.aL+dl}) w4∧Grow A2.L w2 A2.L w4∧zB w4 (A.bc s) 10 c2.waits∧zB w4 (A.bc s) 11 c2.over):=by
  intro A2 w2 v A3 hA3 q st;have uy:A2.bc=A.bc:=st.bc;have Lc:A2.Y=A.Y:=st.Y;have OC:A2.ba=A.ba:=st.ba;have x4:=q.call hc2 4 (v:=A2.aW s) rfl;have z4:=q.nT hc2 4;rw[uy] at x4 z4;refine⟨x4,z4,?_⟩;rintro w3 rfl;obtain⟨r3,g3⟩:=q.qm hc2 v ok;rw[<-hA3,uy] at r3;rw[uy] at g3;have e3:A3.Y=A.Y:=by rw[hA3];exact Lc
  have OD:A3.ba=A.ba:=by rw[hA3];exact OC
  have OE:A3.bc=A.bc:=by rw[hA3];exact uy
  have OG:A3.L=A2.L:=by rw[hA3]
  have y23:=r3.eH 23 (v:=I (az.aL:Int)) rfl;have z23:=r3.pK 23;have y2:=r3.eH 2 (v:=R A3.ba 0) rfl;have hcn:=flip (kT r3.drew (by show az.count<_;omega));rw[e3] at y23 z23 y2;rw[OD] at hcn y2;rw[show (az.aF s {c2 with k:=ok}).count=D.count+dl from hdl] at hcn;refine⟨y23,z23,y2,hcn,?_⟩;intro w4 hw4;obtain⟨r4,g4⟩:=r3.drew.tJ (az.aL+dl);rw[e3,hw4] at r4 g4;rw[OG] at g4;have hc4:({az.aF s {c2 with k:=ok} with aL:=az.aL+dl}:St).calls.getD s none=some {c2 with k:=ok}:=by show (az.aF s {c2 with k:=ok}).calls.getD s none=_;rw[bS (bH hc2),aV rfl]
  have Co:=r4.call hc4 10 (v:=.bool c2.waits) rfl;have DL:=r4.call hc4 11 (v:=.bool c2.over) rfl;rw[OE] at Co DL;exact⟨r4,(g3.trans (Grow.drew _ _)).trans g4,Co,DL⟩
 have hwx:(w.alloc (.cells #[I 0,I 0,I 0,.slice none 0 0,I 0,I 0] 81)).cell? (J (A.bc s) 10)=zb c.waits:=r0.call hc 10 rfl;have Qr:=U Gv;clear hL ht hc V aQ aN HS hc2 hdl hd1 hlk hcq r0 g0 fl fh Gv hk0 hkr Gw kH hc1 hkp hs;generalize (D.count:Int)=ca at*;generalize ((D.count+dl:Nat):Int)=cb at*;generalize ((az.aL+dl:Nat):Int)=lb at*;go_enter Tryz.func34,Tryz.ntmps34;go_wp2_with (go_at_call 40;refine (ll.out _).mono ?_;rintro e G ⟨rfl,rfl⟩);generalize hw0:w.alloc _=w0 at*
 go_quiet (fail)
 generalize iG:w0.drewN _=w5;obtain⟨NF,FH,h6⟩:=H5.out _ w5 iG;obtain⟨y2,y4,hcn,hS,gg,fD⟩:=h6 _ rfl;have HC:=U hcn;have HX:=U (zA hS (zA gg fD));clear hcn hS gg fD h6 iG hw0 H5 v0 v1 hwx;go_wp2_with (go_at_call 71;refine HC.out.mono ?_;rintro e G ⟨rfl,rfl⟩);refine HX.out.1.mono ?_;rintro e w2 ⟨A2,v,rfl,q1,q2,q3,q4⟩;subst hok;have hv:v=.nilFunc:=q4;clear q4;subst hv;obtain⟨x4,z4,h3⟩:=H7.out A2 w2 .nilFunc _ rfl q1 q3;obtain⟨y23,z23,y2',hcn,h4⟩:=h3 _ rfl;have OH:=U hcn;have DN:=U (zA q1 (zA q2 (zA q3 h4)));clear hcn h3 h4 q1 q2 q3 H7 NF FH y2 y4;go_wp2_with fail;generalize hw3:w2.setCell (J (A.bc s) 4) .nilFunc=w3 at*;refine wp_region_still_tail 14 (by kernel_rfl) (by kernel_rfl) ?_;simp only[jk,jl,jm,jo]
 repeat still_step
 still_call OH.out
 repeat still_step
 refine wpStill_nil ?_;change wpList _ _ _ _ _ w3.drew;have OJ:w3.drew.cell? (J A.Y 23)=zt (az.aL:Int):=y23;have OL:w3.drew.frozen? (J A.Y 23)=false:=z23;generalize w3.drew=wd at*;obtain⟨r4,g4,Co,DL⟩:=DN.out.2.2.2 _ rfl;rw[hw] at Co;rw[hov] at DL;obtain⟨hc2,hdl,hcq,hs,_⟩:=HF.out;have q3:=DN.out.2.2.1;have hc4:({az.aF s {c2 with k:=none} with aL:=az.aL+dl}:St).calls.getD s none=some {c2 with k:=none}:=by show (az.aF s {c2 with k:=none}).calls.getD s none=_;rw[bS (bH hc2),aV rfl]
 obtain⟨A4,Ms⟩:∃ A4:au,A4={A2 with aW:=jI A2.aW s .nilFunc}:=⟨_,rfl⟩
 rw[<-Ms] at r4;have Mt:A4.Y=A.Y:=by rw[Ms];exact q3.Y
 have Rp:A4.L=A2.L:=by rw[Ms]
 have m13:=r4.eH (13+s) (eF A4 _ hs);have FJ:=r4.pK (13+s);obtain⟨r5,g5⟩:=r4.qj hs (.pointer none);obtain⟨A5,Mv⟩:∃ A5:au,A5={A4 with bG:=jI A4.bG s (.pointer none)}:=⟨_,rfl⟩
 rw[<-Mv,Mt] at r5;rw[Mt] at g5 m13 FJ;have Rq:A5.L=A2.L:=by rw[Mv];exact Rp
 rw[Rp] at g5;have DU:wS A A5 s:=by
  rw[Mv,Ms];exact⟨q3.bf,q3.mp,q3.mt,fun q _=>congrFun q3.bt q,fun q _=>congrFun q3.bc q,q3.bx,q3.aR,fun q hq=>(bz _ _ hq).trans (congrFun q3.aW q),fun q hq=>(bz _ _ hq).trans (congrFun q3.bG q)⟩
 have Mw:A5.bt=A.bt:=by rw[Mv,Ms];exact q3.bt
 have JX:A5.bc=A.bc:=by rw[Mv,Ms];exact q3.bc
 have Qw:A5.bG s=.pointer none:=by rw[Mv];exact kg _ _ _
 have m8:=r5.call hc4 8 (v:=I c2.r.over) rfl;have aS:=r5.mem.all (.aB s);rw[gL (A:=A5) hc4] at aS;obtain⟨pa,vX,hpv,_⟩:=Ow.bD aS.1;obtain⟨np,Qx⟩:∃ np,np=c2.r.aB.length:=⟨_,rfl⟩
 rw[show ({c2 with k:=none}:dF).r.aB.length=np from Qx.symm] at hpv;rw[JX] at m8;rw[show (c2.r.over:Int)=0 by rw[hro];rfl] at m8;have Rs:∀ (A6:au) (Le:St) G,aD A6 Le G->A6.bt=A.bt->A6.bc=A.bc->A6.aR=A5.aR->Le.ag.getD s none=some t2->Le.calls.getD s none=some {c2 with k:=none}->zT G (A.bt s) 0 t2.id∧zT G (A.bc s) 0 c2.op.kind∧zT G (A.bc s) 1 c2.op.E∧zT G (A.bc s) 2 c2.op.hi∧zT G (A.bc s) 3 c2.op.value∧zT G (A.bc s) 5 c2.r.e∧zT G (A.bc s) 6 c2.r.value∧G.cell? (J (A.bc s) 7)=some (.slice pa np vX)∧zT G (A.bc s) 8 c2.r.over∧zT G (A.bc s) 9 c2.r.ay:=by
  intro A6 Le G r b1 b2 b3 b4 b5;have x0:=r.dZ b4 0 (v:=I t2.id) rfl;have y0:=r.call b5 0 (v:=I c2.op.kind) rfl;have y1:=r.call b5 1 (v:=I c2.op.E) rfl;have y2:=r.call b5 2 (v:=I c2.op.hi) rfl;have y3:=r.call b5 3 (v:=I c2.op.value) rfl;have y5:=r.call b5 5 (v:=I c2.r.e) rfl;have y6:=r.call b5 6 (v:=I c2.r.value) rfl;have y7:=r.call b5 7 (v:=A6.aR s) rfl;have y8:=r.call b5 8 (v:=I c2.r.over) rfl;have y9:=r.call b5 9 (v:=I c2.r.ay) rfl;rw[b1] at x0;rw[b2] at y0 y1 y2 y3 y5 y6 y7 y8 y9;rw[b3,hpv] at y7;exact⟨x0,y0,y1,y2,y3,y5,y6,y7,y8,y9⟩
 have HE:Hid (∀ w6 va vc,aD A5 ({az.aF s {c2 with k:=none} with aL:=az.aL+dl}:St) w6->jL A5.L w6 (.slice va np vc) (bI c2.r.aB)->zk 50 #[R A.Y 0,.agg #[I 2,I t2.id,zu 0,I c2.op.kind,I c2.op.E,I c2.op.hi,I c2.op.value,I c2.r.e,I c2.r.value,.slice va np vc,I c2.r.over,I c2.r.ay]] w6 (Does A5 w6 s (({az.aF s {c2 with k:=none} with aL:=az.aL+dl}:St).event {kind:=2,t:=t2.id,op:=c2.op,res:=c2.r}) (.tuple #[]))):=by
  intro w6 va vc r hp;have h:=kW r s {kind:=2,t:=t2.id,op:=c2.op,res:=c2.r} 2 t2.id 0 c2.op.kind c2.op.E c2.op.hi c2.op.value c2.r.e c2.r.value c2.r.over c2.r.ay va np vc rfl hp htl;rw[DU.Y] at h;exact h
 have Tk:Hid (∀ (A6:au) (Le:St) G,aD A6 Le G->A6.aR=A5.aR->Le.calls.getD s none=some {c2 with k:=none}->Ow.Row G 0 2 (.slice pa np vX) (bI c2.r.aB)):=by
  intro A6 Le G r b3 b5;have h:=r.mem.all (.aB s);rw[gL (A:=A6) b5] at h;have h2:=yg h.1;rw[b3,hpv] at h2;exact h2
 have Qy:=U (zA Qx.symm (by rw[Qx];exact hpr:np<=1000000));have Tm:=U Rs;have fD:=bX (bX (bX HX.out.2.2 DN.out.2.1) g4) g5;have HY:=U (zA r5 (zA (g4.trans g5) (zA fD (zA hpr (zA hro (zA ht2 (zA hc4 (zA DU (zA Mw (zA JX (zA Qw Rq)))))))))));have S0:=Rs A5 _ _ r5 Mw JX rfl ht2 hc4;clear Qx Rs r4 g4 r5 g5 fD aS hpv q3 hc4 hc2 hdl hcq hw hov hpr hro ht2 Ms Mv Mt Rp Rq DU Mw JX Qw htl;go_wp2_with fail;generalize iG:World.setCell (World.setCell wd _ _) _ _=w5 at*;have UA:Hid (∀ G,Below w5.heap.size w5 G->zT G (A.bt s) 0 t2.id∧zT G (A.bc s) 0 c2.op.kind∧zT G (A.bc s) 1 c2.op.E∧zT G (A.bc s) 2 c2.op.hi∧zT G (A.bc s) 3 c2.op.value∧zT G (A.bc s) 5 c2.r.e∧zT G (A.bc s) 6 c2.r.value∧G.cell? (J (A.bc s) 7)=some (.slice pa np vX)∧zT G (A.bc s) 8 c2.r.over∧zT G (A.bc s) 9 c2.r.ay):=fun G Z=>Tm.out A5 _ _ (HY.out.1.below Z) HY.out.2.2.2.2.2.2.2.2.1 HY.out.2.2.2.2.2.2.2.2.2.1 rfl HY.out.2.2.2.2.2.1 HY.out.2.2.2.2.2.2.1
 have Tn:Hid (∀ A7 G,aD A7 (({az.aF s {c2 with k:=none} with aL:=az.aL+dl}:St).event {kind:=2,t:=t2.id,op:=c2.op,res:=c2.r}) G->bL A5 A7 s->A7.aR=A5.aR->zT G (A.bt s) 0 t2.id∧zT G (A.bc s) 0 c2.op.kind∧zT G (A.bc s) 1 c2.op.E∧zT G (A.bc s) 2 c2.op.hi∧zT G (A.bc s) 3 c2.op.value∧zT G (A.bc s) 5 c2.r.e∧zT G (A.bc s) 6 c2.r.value∧G.cell? (J (A.bc s) 7)=some (.slice pa np vX)∧zT G (A.bc s) 8 c2.r.over∧zT G (A.bc s) 9 c2.r.ay):=fun A7 G r st vp=>Tm.out A7 _ _ r (st.bt.trans HY.out.2.2.2.2.2.2.2.2.1) (st.bc.trans HY.out.2.2.2.2.2.2.2.2.2.1) vp HY.out.2.2.2.2.2.1 HY.out.2.2.2.2.2.2.1
 have HRW:Hid (∀ G,Below w5.heap.size w5 G->Ow.Row G 0 2 (.slice pa np vX) (bI c2.r.aB)):=fun G Z=>Tk.out A5 _ _ (HY.out.1.below Z) rfl HY.out.2.2.2.2.2.2.1
 have UB:Hid (∀ b,w5.heap.size<=b->A5.L b=none):=HY.out.1.mem.fresh
 go_region_held3 (fun G=>zT G (A.bt s) 0 t2.id∧zT G (A.bc s) 0 c2.op.kind∧zT G (A.bc s) 1 c2.op.E∧zT G (A.bc s) 2 c2.op.hi∧zT G (A.bc s) 3 c2.op.value∧zT G (A.bc s) 5 c2.r.e∧zT G (A.bc s) 6 c2.r.value∧G.cell? (J (A.bc s) 7)=some (.slice pa np vX)∧zT G (A.bc s) 8 c2.r.over∧zT G (A.bc s) 9 c2.r.ay)
  (first|exact S0|assumption|exact UA.out _ (by assumption)|exact Tn.out _ _ (by assumption) (by assumption) (by assumption))
  (first|(go_at_call 53;refine (pR _ _ _ _ _ _ _ _ c2.r.aB (HRW.out _ ((Below.refl _ w5).drew)) Qy.out.1 Qy.out.2).mono ?_;rintro e w6 ⟨ca,cc,rfl,ho,Z⟩;have hb5:Below w5.heap.size w5 w6:=((Below.refl _ w5).drew).trans Z;have UC:jL A5.L w6 (.slice ca np cc) (bI c2.r.aB):=rW ho (fun b h _=>UB.out b h);clear Z ho)|(go_at_call 50;refine (HE.out _ _ _ (HY.out.1.below (by assumption)) (by assumption)).mono ?_;rintro e w7 ⟨rfl,A7,p1,p2,p3,p4,p5⟩))
 obtain⟨_,_,_,_,_,s5,s6,s7,s8,s9⟩:=Tn.out _ _ p1 p3 p5;rw[HY.out.2.2.2.2.2.2.2.2.2.2.2] at p2;have Tp:=U (bX (bX HY.out.2.2.1 (Grow.below (L:=A2.L) hb5)) p2);have H7:=U (zA p1 (zA ((Grow.below (L:=A2.L) hb5).trans p2) (zA p3 (zA p4 p5))));have UD:=U (Tk.out A7 _ _ p1 p5 HY.out.2.2.2.2.2.2.1);have UE:=U p1.mem.fresh;clear p1 p2 p3 p4 p5 hb5 S0 UC;go_wp2_with (first|(go_at_call 53;refine (pR _ _ _ _ _ _ _ _ c2.r.aB UD.out Qy.out.1 Qy.out.2).mono ?_;rintro e w8 ⟨da,dc,rfl,Tq,uB⟩;have UF:=U Tq;clear Tq;have Rt:=U uB;have vR:=U (ik (bX Tp.out (Grow.below (L:=A7.L) uB)).2);clear uB)|(refine wpList_store_mid rfl 81 (.tmp 4) (.tmp 115) rfl w.heap.size 0 #[I 3,I c2.r.e,I c2.r.value,.slice da np dc,I c2.r.over,I c2.r.ay] rfl rfl vR.out (by kernel_rfl) (by simp[Value.oneCell']) ?_;generalize hws:World.setCells _ _ _ _=ws));have dW:=But.setCells w.heap.size [I 3,I c2.r.e,I c2.r.value,.slice da np dc,I c2.r.over,I c2.r.ay] 0 w8;have fD:=bX Tp.out (Grow.below (L:=A7.L) Rt.out);have hfin:=jC fD.2 (I 3) (I c2.r.e) (I c2.r.value) (.slice da np dc) (I c2.r.over) (I c2.r.ay);rw[show w8.setCells w.heap.size 0 [I 3,I c2.r.e,I c2.r.value,.slice da np dc,I c2.r.over,I c2.r.ay]=ws from hws] at dW hfin
 (try simp only[Exit.inBlock,Exit.then])
 refine bodyPost_ret (dP rfl _ _ w.heap.size 81 #[I 3,I c2.r.e,I c2.r.value,.slice da np dc,I c2.r.over,I c2.r.ay] _ _ rfl hfin Tryz.underlying81 rfl (by kernel_rfl)) rfl ?_;rw[HQ.out];obtain⟨hc2,hdl,hcq,hs,_⟩:=HF.out;obtain⟨q1,q2,q3,_⟩:=DN.out;obtain⟨_,g5,_,hpr,_,_,_,DU,_,_,Qw,Rq⟩:=HY.out;obtain⟨p1,p2,p3,p4,p5⟩:=H7.out;have r7:=((p1.below Rt.out).zy s).but fD.1 dW;have gg:=(((((HX.out.2.1.trans q2).trans g5).trans p2).trans (Grow.below (L:=A7.L) Rt.out)).but (zr _) dW)
 have hlen:s<(az.aF s {c2 with k:=none}).calls.length:=by have:=bH hc2;simpa [St.aF] using this
 have hns:((az.aF s {c2 with k:=none}).calls.set s none).getD s none=none:=by rw[jy _ _ _ _ _ hlen,aV rfl]
 refine⟨A7,.slice da np dc,rfl,(rW (yj UF.out dW fD.2 (by decide)) (fun b h _=>UE.out b h)).1,Live.of (s:=s) sW.out IK.out r7 gg ⟨p3.bf.trans DU.bf,p3.mp.trans DU.mp,p3.mt.trans DU.mt,fun q hq=>(congrFun p3.bt q).trans (DU.bt q hq),fun q hq=>(congrFun p3.bc q).trans (DU.bc q hq),fun q hq=>(p3.bx q hq).trans (DU.bx q hq),fun q hq=>(p3.aR q hq).trans (DU.aR q hq),fun q hq=>(congrFun p3.aW q).trans (DU.aW q hq),fun q hq=>(congrFun p3.bG q).trans (DU.bG q hq)⟩ (fun q hq=>?_) (fun c' hcc=>?_) (fun hnn=>(congrFun p3.bG s).trans Qw),gg,p3.Y.trans DU.Y⟩
 . show ((az.aF s {c2 with k:=none}).calls.set s none).getD q none=_
   rw[jy _ _ _ _ _ hlen,aX hq,bS (bH hc2),aX hq];exact hcq q hq
 . have h0:=hns.symm.trans hcc
   cases h0
theorem kz (a b:Value) (n:Nat):(madeCells #[a,b] (n*2)).toList=two (List.replicate n (a,b)):=by
 apply List.ext_getElem?
 intro i;have e1:(madeCells #[a,b] (n*2)).toList[i]? =if i<n*2 then some (#[a,b][i % 2]!) else none:=by
  by_cases h:i<n*2
  . rw[aV h];simp[madeCells,h]
  . rw[aX h,List.getElem?_eq_none_iff];simp[madeCells];omega
 rw[e1]
 by_cases h:i<n*2
 . rw[aV h]
   have hr:(List.replicate n (a,b))[i / 2]? =some (a,b):=by rw[List.getElem?_replicate,aV (by omega)]
   obtain⟨h0,h1⟩:=xX (List.replicate n (a,b)) (i / 2) hr
   rcases Nat.mod_two_eq_zero_or_one i with hm|hm
   . rw[show 2*(i / 2)=i by omega] at h0
     rw[h0,hm];rfl
   . rw[show 2*(i / 2)+1=i by omega] at h1
     rw[h1,hm];rfl
 . rw[aX h]
   symm
   rw[List.getElem?_eq_none_iff,BR];simp;omega
theorem O9:(Tryz.prog.info? 186).map (fun i=>(i.zero,i.size,i.bytes))=some (some (.agg #[zu 0]),1,8):=by kernel_rfl
theorem Pb:(Tryz.prog.info? 190).map (fun i=>(i.zero,i.size,i.bytes))=some (some (.agg #[I 0,I 0]),2,16):=by kernel_rfl
theorem Pd:(Tryz.prog.info? 243).map (fun i=>(i.zero,i.size,i.bytes))=some (some (.agg #[I 0,.bool false]),2,16):=by kernel_rfl
theorem Cx (n:Nat) (h:n<=100000) (w:World):(Instr.makeSlice 179 (I n) (I n)).run Tryz.prog w=.ok (.slice (some (J w.heap.size 0)) n n) (w.alloc (.cells (madeCells #[zu 0] n) 186)):=by
 obtain⟨i,hi,hz0,hz1,hz2⟩:=info_parts O9;have:=run_make (P:=Tryz.prog) w 179 186 i _ Tryz.underlying179 hi hz0 .i64 .i64 n n (by omega) (Int.le_refl _) (by rw[hz2];omega) (by omega);rw[hz1] at this
 simpa [Value.cells] using this
theorem EP (n:Nat) (h:n<=100000) (w:World):(Instr.makeSlice 206 (I n) (I n)).run Tryz.prog w=.ok (.slice (some (J w.heap.size 0)) n n) (w.alloc (.cells (madeCells #[I 0,.bool false] (n*2)) 243)):=by
 obtain⟨i,hi,hz0,hz1,hz2⟩:=info_parts Pd;have:=run_make (P:=Tryz.prog) w 206 243 i _ Tryz.underlying206 hi hz0 .i64 .i64 n n (by omega) (Int.le_refl _) (by rw[hz2];omega) (by omega);rw[hz1] at this
 simpa [Value.cells] using this
theorem AJ (n:Nat) (h:n<=100000) (w:World):(Instr.makeSlice 103 (I n) (I n)).run Tryz.prog w=.ok (.slice (some (J w.heap.size 0)) n n) (w.alloc (.cells (madeCells #[I 0,I 0] (n*2)) 190)):=by
 obtain⟨i,hi,hz0,hz1,hz2⟩:=info_parts Pb;have:=run_make (P:=Tryz.prog) w 103 190 i _ Tryz.underlying103 hi hz0 .i64 .i64 n n (by omega) (Int.le_refl _) (by rw[hz2];omega) (by omega);rw[hz1] at this
 simpa [Value.cells] using this
theorem GJ (n:Nat) (h1:1<=n) (h2:n<=100000) (w:World):zk 77 #[I n] w fun e G=>e=.returned (.tuple #[.pointer (some ⟨w.heap.size+1,0,none⟩),I 0])∧G=(w.alloc (.cells (madeCells #[zu 0] n) 186)).alloc (.cells #[.slice (some (J w.heap.size 0)) n n,I 0] 184):=by
 have hm:=fun w=>Cx n h2 w
 have d1:decide ((n:Int)<1)=false:=by simp;omega
 have d2:((n:Int)<1)=False:=by simp;omega
 have d3:decide ((100000:Int)<(n:Int))=false:=by simp;omega
 have d4:((100000:Int)<(n:Int))=False:=by simp;omega
 have d5:(n<1)=False:=by simp;omega
 have d6:(100000<n)=False:=by simp;omega
 have d7:(n=0)=False:=by simp;omega
 clear h1 h2;go_enter Tryz.func77,Tryz.ntmps77;go_wp2
 go_ret2
 exact⟨rfl,rfl⟩
theorem JY (n:Nat) (h1:1<=n) (h2:n<=4096) (w:World):zk 78 #[I n,I 65535] w fun e G=>e=.returned (.tuple #[.pointer (some ⟨w.heap.size+1,0,none⟩),I 0])∧G=(w.alloc (.cells (madeCells #[I 0,.bool false] (n*2)) 243)).alloc (.cells #[.slice (some (J w.heap.size 0)) n n,I 65535,.slice none 0 0,I 0,.int .u32 0,.int .i32 0,.int .u32 0] 208):=by
 have hm:=fun w=>EP n (by omega) w
 have d1:decide ((n:Int)<1)=false:=by simp;omega
 have d2:((n:Int)<1)=False:=by simp;omega
 have d3:decide ((4096:Int)<(n:Int))=false:=by simp;omega
 have d4:((4096:Int)<(n:Int))=False:=by simp;omega
 have d5:(n<1)=False:=by simp;omega
 have d6:(4096<n)=False:=by simp;omega
 have d7:(n=0)=False:=by simp;omega
 clear h1 h2;go_enter Tryz.func78,Tryz.ntmps78;go_wp2
 go_ret2
 exact⟨rfl,rfl⟩
theorem Mx (n l:Nat) (h1:1<=n) (h2:n<=256) (h3:1<=l) (h4:l<=1099511627776) (w:World):zk 76 #[.agg #[I n,zu l]] w fun e G=>e=.returned (.bool true)∧Below w.heap.size w G:=by
 have Z:Below w.heap.size w (w.alloc (.cells #[I n,zu l] 66)):=(Below.refl _ _).alloc (zr _) _;have HB:=U Z;have d1:decide ((1:Int)<=(n:Int))=true:=by simp;omega
 have d2:decide ((n:Int)<=256)=true:=by simp;omega
 have d3:decide ((1:Int)<=(l:Int))=true:=by simp;omega
 have d4:decide ((l:Int)<=1099511627776)=true:=by simp;omega
 have e1:((1:Int)<=(n:Int))=True:=by simp;omega
 have e2:((n:Int)<=256)=True:=by simp;omega
 have e3:((1:Int)<=(l:Int))=True:=by simp;omega
 have e4:((l:Int)<=1099511627776)=True:=by simp;omega
 have g1:(1<=n)=True:=by simp;omega
 have g2:(n<=256)=True:=by simp;omega
 have g3:(1<=l)=True:=by simp;omega
 have g5:(0<n)=True:=by simp;omega
 have g6:(0<l)=True:=by simp;omega
 clear h1 h2 h3 h4 Z;go_enter Tryz.func76,Tryz.ntmps76;go_wp2;go_ret;exact⟨rfl,HB.out⟩
def book0 (Y ba bw bp bs bv:Nat):au where
 L:=fun k=>if k=Y then some .eH else if k=ba then some .arena else if k=bw then some .words else if k=bp then some .bK else if k=bs then some .tags else if k=bv then some .values else none
 Y:=Y
 ba:=ba
 bw:=bw
 bp:=bp
 bs:=bs
 bv:=bv
 bt:=fun _=>0
 bm:=fun _=>0
 bc:=fun _=>0
 bx:=fun _ _=>0
 eO:=.slice none 0 0
 iT:=.slice none 0 0
 mf:=.slice none 0 0
 hcut:=false
 vT:=0
 gJ:=.nilFunc
 dR:=fun _=>.slice none 0 0
 eu:=fun _=>.slice none 0 0
 dN:=fun _=>.slice none 0 0
 aR:=fun _=>.slice none 0 0
 aW:=fun _=>.nilFunc
 bG:=fun _=>.pointer none
 fH:=[]
 nS:=[]
 mp:=0
 mt:=fun _=>0
 jZ:=fun _=>false
theorem AL {α:Type} (n s:Nat) (d:α):(List.replicate n d).getD s d=d:=by
 rw[mM,List.getElem?_replicate]
 split<;>rfl
theorem JZ {w:World} {n l Y ba bw bp bs bv:Nat} (hn:1<=n∧n<=256)
 (d:Y≠ba∧Y≠bw∧Y≠bp∧Y≠bs∧Y≠bv∧ba≠bw∧ba≠bp∧ba≠bs∧ba≠bv∧bw≠bp∧bw≠bs∧bw≠bv∧bp≠bs∧bp≠bv∧bs≠bv)
 (h1:w.heap[Y]? =some (.cells #[I n,zu l,R ba 0,R bp 0,.slice (some (J bv 0)) n n,.pointer none,.pointer none,.pointer none,.pointer none,.pointer none,.pointer none,.pointer none,.pointer none,.pointer none,.pointer none,.pointer none,.pointer none,.pointer none,.pointer none,.pointer none,.pointer none,I 0,I 0,I 0,.slice none 0 0,.nilFunc,zu 0,.slice none 0 0,.bool false] 111))
 (h2:w.heap[ba]? =some (.cells #[.slice (some (J bw 0)) (73+n*3+2000+1) (73+n*3+2000+1),I 0] 184))
 (h3:w.heap[bw]? =some (.cells (madeCells #[zu 0] (73+n*3+2000+1)) 186))
 (h4:w.heap[bp]? =some (.cells #[.slice (some (J bs 0)) n n,I 65535,.slice none 0 0,I 0,.int .u32 0,.int .i32 0,.int .u32 0] 208))
 (h5:w.heap[bs]? =some (.cells (madeCells #[I 0,.bool false] (n*2)) 243))
 (h6:w.heap[bv]? =some (.cells (madeCells #[I 0,I 0] (n*2)) 190)):Live (book0 Y ba bw bp bs bv) (new n l) w:=by
 obtain⟨d1,d2,d3,d4,d5,d6,d7,d8,d9,UG,UH,UI,UJ,UK,UL⟩:=d;have hto:∀ (a:Array Value) (l:List Value),a.toList=l->a=l.toArray:=fun a l h=>by rw[<-h]
 have e3:=hto _ _ (toList_madeCells_one (zu 0) (73+n*3+2000+1));have e5:=hto _ _ (kz (I 0) (.bool false) n);have e6:=hto _ _ (kz (I 0) (I 0) n);rw[e3] at h3;rw[e5] at h5;rw[e6] at h6;have htx:∀ s,(new n l).ag.getD s none=none:=fun s=>AL 8 s none
 have hcl:∀ s,(new n l).calls.getD s none=none:=fun s=>AL 8 s none
 have hm:Holds (book0 Y ba bw bp bs bv).L w (aY (book0 Y ba bw bp bs bv) (new n l)):=by
  refine⟨fun r=>?_,fun b Z=>?_⟩
  . cases r
    case eH=>exact⟨by simp[book0],h1⟩
    case arena=>exact⟨by simp[book0,Ne.symm d1],by simpa [aY,mP,new,book0,i64] using h2⟩
    case words=>exact⟨by simp[book0,Ne.symm d2,Ne.symm d6],by simpa [aY,new,book0,u64] using h3⟩
    case bK=>exact⟨by simp[book0,Ne.symm d3,Ne.symm d7,Ne.symm UG],by simpa [aY,kF,iC,new,book0,i64] using h4⟩
    case tags=>exact⟨by simp[book0,Ne.symm d4,Ne.symm d8,Ne.symm UH,Ne.symm UJ],by simpa [aY,wH,new,book0,i64] using h5⟩
    case values=>exact⟨by simp[book0,Ne.symm d5,Ne.symm d9,Ne.symm UI,Ne.symm UK,Ne.symm UL],by simpa [aY,mQ,new,book0,i64] using h6⟩
    case free=>exact⟨World.ownsRow_nil _ 0 _ _,fun g hg=>by cases hg⟩
    case aP=>exact⟨World.ownsRow_nil _ 0 _ _,fun g hg=>by cases hg⟩
    case cut=>trivial
    case tmp=>trivial
    case dZ s=>simp only[aY,htx];trivial
    case map s=>simp only[aY,htx];trivial
    case cell s E=>simp only[aY,htx];trivial
    case keys s=>simp only[aY,htx];trivial
    case reads s=>simp only[aY,htx];trivial
    case aJ s=>simp only[aY,htx];trivial
    case call s=>simp only[aY,hcl];trivial
    case aB s=>simp only[aY,hcl];trivial
  . have l1:=eQ h1
    have l2:=eQ h2;have l3:=eQ h3;have l4:=eQ h4;have l5:=eQ h5;have l6:=eQ h6;show (if b=Y then some bN.eH else _)=none;rw[aX (by omega),aX (by omega),aX (by omega),aX (by omega),aX (by omega),aX (by omega)]
 refine⟨⟨hm,rfl,hn,by simp[new],by simp[new],by simp[new],by simp[new],by simp[new]⟩,rfl,fun _=>rfl,fun s _ c hc=>absurd ((hcl s).symm.trans hc) (by simp),fun s _ _=>rfl,⟨rfl,.inl ⟨rfl,rfl,rfl⟩⟩⟩
theorem wX (n l:Nat) (h1:1<=n) (h2:n<=256) (h3:1<=l) (h4:l<=1099511627776) (w:World):zk 37 #[.agg #[I n,zu l]] w fun e G=>∃ A,e=.returned (.tuple #[R A.Y 0,I 0])∧Live A (new n l) G∧Grow (fun _=>none) w A.L G:=by
 have hco:=U (Mx n l h1 h2 h3 h4);have Tt:=U (fun w=>GJ (73+n*3+2000+1) (by omega) (by omega) w);have hpn:=U (fun w=>JY n h1 (by omega) w);have hmv:=fun w=>AJ n (by omega) w
 have ea:((73+n*3+2000+1:Nat):Int)=73+(n:Int)*3+2000+1:=by omega
 rw[ea] at Tt;have n1:IntKind.i64.wrap ((n:Int)*3)=(n:Int)*3:=by rw[jH];omega
 have n2:IntKind.i64.wrap (73+(n:Int)*3)=73+(n:Int)*3:=by rw[jH];omega
 have n3:IntKind.i64.wrap (73+(n:Int)*3+2000)=73+(n:Int)*3+2000:=by rw[jH];omega
 have n4:IntKind.i64.wrap (73+(n:Int)*3+2000+1)=73+(n:Int)*3+2000+1:=by rw[jH];omega
 have HN:=U (zA h1 h2);have x0:(w.alloc (.cells #[I n,zu l] 66)).cell? (J w.heap.size 0)=zt n:=by rw[cell_of_row _ _ 0 _ _ _ (heap_alloc_new w _)];rfl
 have x1:(w.alloc (.cells #[I n,zu l] 66)).cell? (J w.heap.size 1)=zv l:=by rw[cell_of_row _ _ 1 _ _ _ (heap_alloc_new w _)];rfl
 have HC:Hid (∀ H,Below (w.alloc (.cells #[I n,zu l] 66)).heap.size (w.alloc (.cells #[I n,zu l] 66)) H->zT H w.heap.size 0 n∧zV H w.heap.size 1 l∧w.heap.size<H.heap.size):=by
  intro H Z;have hs:=jh w (.cells #[I n,zu l] 66);have hz:=Z.size;exact⟨(Z.cell (p:=(J w.heap.size 0)) (by rw[hs];exact Nat.lt_succ_self _)).trans x0,(Z.cell (p:=(J w.heap.size 1)) (by rw[hs];exact Nat.lt_succ_self _)).trans x1,by omega⟩
 have HB2:Hid (∀ (H w2:World) (a b:Obj),w2=(H.alloc a).alloc b->w.heap.size<H.heap.size->H.cell? (J w.heap.size 0)=zt n->H.cell? (J w.heap.size 1)=zv l->zT w2 w.heap.size 0 n∧zV w2 w.heap.size 1 l∧w.heap.size<w2.heap.size):=by
  rintro H w2 a b rfl hl k0 k1;have Z:Below H.heap.size H ((H.alloc a).alloc b):=((Below.refl _ _).alloc (zr _) _).alloc (by simp) _;exact⟨(Z.cell (p:=(J w.heap.size 0)) hl).trans k0,(Z.cell (p:=(J w.heap.size 1)) hl).trans k1,qW hl Z.size⟩
 clear h1 h2 h3 h4 ea;go_enter Tryz.func37,Tryz.ntmps37;go_wp2_with (first|(go_at_call 76;refine (hco.out _).mono ?_;rintro e H ⟨rfl,Z⟩;obtain⟨y0,y1,hsz⟩:=HC.out H Z;have HB:=U (zA Z hsz);clear Z hsz)|(go_at_call 77;refine (Tt.out _).mono ?_;rintro e w2 ⟨rfl,hw2⟩;obtain⟨z0,z1,hl2⟩:=HB2.out H w2 _ _ hw2 HB.out.2 y0 y1;have H2:=U (zA hw2 hl2);clear hw2 hl2)|(go_at_call 78;refine (hpn.out _).mono ?_;rintro e w3 ⟨rfl,hw3⟩;obtain⟨u0,u1,hl3⟩:=HB2.out w2 w3 _ _ hw3 H2.out.2 z0 z1;have H3:=U (zA hw3 hl3);clear hw3 hl3));have v0:(w3.alloc (.cells (madeCells #[I 0,I 0] (n*2)) 190)).cell? (J w.heap.size 0)=zt n:=by rw[World.cell?_alloc_past _ _ _ H3.out.2];exact u0
 have v1:(w3.alloc (.cells (madeCells #[I 0,I 0] (n*2)) 190)).cell? (J w.heap.size 1)=zv l:=by rw[World.cell?_alloc_past _ _ _ H3.out.2];exact u1
 go_region
 go_wp2_with fail
 go_ret2
 obtain⟨hw2,_⟩:=H2.out;obtain⟨hw3,_⟩:=H3.out;obtain⟨hb1,hl1⟩:=HB.out;have yE:∀ (w:World) (a b:Obj),((w.alloc a).alloc b).heap[w.heap.size]? =some a:=fun w a b=>(Below.heap_alloc _ _ _ (by simp)).trans (heap_alloc_new w a)
 have s2:w2.heap.size=H.heap.size+2:=by rw[hw2];simp
 have s3:w3.heap.size=w2.heap.size+2:=by rw[hw3];simp
 have NH:∀ (w:World) (a b:Obj),Below w.heap.size w ((w.alloc a).alloc b):=fun w a b=>((Below.refl _ _).alloc (zr _) _).alloc (by simp) _
 have Tu:=yE H (.cells (madeCells #[zu 0] (73+n*3+2000+1)) 186) (.cells #[.slice (some (J H.heap.size 0)) (73+n*3+2000+1) (73+n*3+2000+1),I 0] 184);have Tv:=heap_alloc2_new H (.cells (madeCells #[zu 0] (73+n*3+2000+1)) 186) (.cells #[.slice (some (J H.heap.size 0)) (73+n*3+2000+1) (73+n*3+2000+1),I 0] 184);rw[<-hw2] at Tu Tv;have Tw:=yE w2 (.cells (madeCells #[I 0,.bool false] (n*2)) 243) (.cells #[.slice (some (J w2.heap.size 0)) n n,I 65535,.slice none 0 0,I 0,.int .u32 0,.int .i32 0,.int .u32 0] 208);have Tx:=heap_alloc2_new w2 (.cells (madeCells #[I 0,.bool false] (n*2)) 243) (.cells #[.slice (some (J w2.heap.size 0)) n n,I 65535,.slice none 0 0,I 0,.int .u32 0,.int .i32 0,.int .u32 0] 208);rw[<-hw3] at Tw Tx;have b12:Below H.heap.size H w2:=by rw[hw2];exact NH _ _ _
 have Ru:Below w2.heap.size w2 w3:=by rw[hw3];exact NH _ _ _
 have Pe:=(NH w3 (.cells (madeCells #[I 0,I 0] (n*2)) 190) (.cells #[I n,zu l,.pointer (some ⟨H.heap.size+1,0,none⟩),.pointer (some ⟨w2.heap.size+1,0,none⟩),.slice (some (J w3.heap.size 0)) n n,.pointer none,.pointer none,.pointer none,.pointer none,.pointer none,.pointer none,.pointer none,.pointer none,.pointer none,.pointer none,.pointer none,.pointer none,.pointer none,.pointer none,.pointer none,.pointer none,I 0,I 0,I 0,.slice none 0 0,.nilFunc,zu 0,.slice none 0 0,.bool false] 111)).drew;have UM:Below w.heap.size w H:=((Below.refl _ _).alloc (zr _) _).trans (hb1.mono (by simp));have UN:=yE w3 (.cells (madeCells #[I 0,I 0] (n*2)) 190) (.cells #[I n,zu l,.pointer (some ⟨H.heap.size+1,0,none⟩),.pointer (some ⟨w2.heap.size+1,0,none⟩),.slice (some (J w3.heap.size 0)) n n,.pointer none,.pointer none,.pointer none,.pointer none,.pointer none,.pointer none,.pointer none,.pointer none,.pointer none,.pointer none,.pointer none,.pointer none,.pointer none,.pointer none,.pointer none,.pointer none,I 0,I 0,I 0,.slice none 0 0,.nilFunc,zu 0,.slice none 0 0,.bool false] 111);have UO:=heap_alloc2_new w3 (.cells (madeCells #[I 0,I 0] (n*2)) 190) (.cells #[I n,zu l,.pointer (some ⟨H.heap.size+1,0,none⟩),.pointer (some ⟨w2.heap.size+1,0,none⟩),.slice (some (J w3.heap.size 0)) n n,.pointer none,.pointer none,.pointer none,.pointer none,.pointer none,.pointer none,.pointer none,.pointer none,.pointer none,.pointer none,.pointer none,.pointer none,.pointer none,.pointer none,.pointer none,.pointer none,I 0,I 0,I 0,.slice none 0 0,.nilFunc,zu 0,.slice none 0 0,.bool false] 111);refine⟨book0 (w3.heap.size+1) (H.heap.size+1) H.heap.size (w2.heap.size+1) w2.heap.size w3.heap.size,rfl,?_,?_⟩
 . refine JZ HN.out (by omega) UO ?_ ?_ ?_ ?_ UN
   . exact (Pe.block _ (by omega)).trans ((Ru.block _ (by omega)).trans Tv)
   . exact (Pe.block _ (by omega)).trans ((Ru.block _ (by omega)).trans Tu)
   . exact (Pe.block _ (by omega)).trans Tx
   . exact (Pe.block _ (by omega)).trans Tw
 . have hall:=((UM.trans (b12.mono (by omega))).trans (Ru.mono (by omega))).trans (Pe.mono (by omega))
   refine⟨hall.os,hall.tape,hall.output,hall.size,fun b Z _=>hall.block b Z,fun b Z=>?_,fun b Z e=>by cases e⟩;show (if b=w3.heap.size+1 then some bN.eH else _)=none;rw[aX (by omega),aX (by omega),aX (by omega),aX (by omega),aX (by omega),aX (by omega)]
end Go.Proofs.YthicolbbmjfkfaaGreat.Em
