import Derived.Test.YthicolbbmjfkfaaGreatQf8
import Derived.Test.YthicolbbmjfkfaaGreatQf10
import Derived.Test.YthicolbbmjfkfaaGreatQf7
set_option linter.unusedVariables false
set_option linter.unusedSimpArgs false
set_option maxRecDepth 100000
set_option maxHeartbeats 1600000
namespace Go.Proofs.YthicolbbmjfkfaaGreat.Em
open Go.ChangeShapes Go.WideShapes Go.ChangeAt Go.RowKit En
def mg (t:bL) (F:Nat):List yJ:=if ((t.cell F).getD default).old≠0 then [⟨af ((t.cell F).getD default).old 1,mine t,ever⟩] else []
theorem yA (D:St) (t:bL):gD D t=t.keys.flatMap (mg t):=rfl
theorem Be (t:bL) (F:Nat):(mg t F).length<=3:=by
 unfold mg
 split
 all_goals simp
theorem KC {o:Oper} {a:Act} {K:Act->World->Prop} {Q:Exit->Act->World->Prop} (w W:World) (s x:Operand)
 (ho:o.op=.call {callee:=.builtin .append,args:=#[s,x],argTypes:=#[232,232]})
 (w0:World) (Z:Below w0.heap.size w0 w) (av:Option Addr) (m cap:Nat) (xs:List Value) (hs:a.eval s=.slice av m cap) (aY:w.ownsRow w0.heap.size 234 3 (.slice av m cap) m xs) (hm:m<4000000)
 (t0 t1 t2:Int) (hW:W=(w.alloc (.cells #[I t0,zu t1,zu t2] 234)).drew) (hx:a.eval x=.slice (some (J w.heap.size 0)) 1 1)
 (h:∀ AR cap' E,E.ownsRow w0.heap.size 234 3 (.slice AR (m+1) cap') (m+1) (xs++[I t0,zu t1,zu t2])->Below w0.heap.size w0 E->K (a.put o.dst (.slice AR (m+1) cap')) E):
 o.wp Tryz.prog a W K Q:=by
 subst hW;obtain⟨ii,hii,hz0,hz1,hz2⟩:=info_parts PM;have hw:=Z.size;have hown':(w.alloc (.cells #[I t0,zu t1,zu t2] 234)).drew.ownsRow w0.heap.size 234 3 (.slice av m cap) m xs:=lV aY fun g hg=>Below.heap_alloc _ _ _ (aY.lt g hg).2
 refine Ow.jH _ s x 232 ho w0.heap.size 234 ii _ 3 24 Tryz.underlying232 hii hz0 hz1 hz2 rfl (by decide) (.slice av m cap) m xs hs hown' (J w.heap.size 0) 1 1 (by omega) [I t0,zu t1,zu t2] hx rfl (fun j u hu=>Ow.iC w [I t0,zu t1,zu t2] _ _ rfl j u hu) (by intro u hu;simp at hu;rcases hu with rfl|rfl|rfl<;>rfl) (by unfold maxLen;omega) (by omega) (by simp[World.drew];omega) ?_;intro v' E q1 q2 q3;obtain⟨AR,cap',rfl,_⟩:=Ow.bO q1;exact h AR cap' E q1 (((Z.alloc hw _).drew).grown q2 (by simp[World.drew];omega) (fun g hg=>(aY.lt g hg).1))
set_option maxHeartbeats 16000000 in
theorem Ot {A:az} {D:St} {w:World} (hR:aF A D w) (s:Nat) (t:bL) (ht:D.ai.getD s none=some t) (hm:A.mt s=0) (er aI:Nat) (hen:t.ay<=1099511627776) (hi1:1<=t.id) (hid:t.id<=2000) (hkl:t.keys.length<1000000) (hK:Fa D t) (htl:D.aQ.length<1000000) (aN:D.count<4000000000000000000) (b0 b1 b2 b3 b4:Nat)
 (B0:aP A.L w b0 (R A.V 0)) (B1:aP A.L w b1 (R (A.bt s) 0)) (B2:aP A.L w b2 (I aI)) (B3:aP A.L w b3 (R (A.bc s) 0)) (B4:aP A.L w b4 (I er)):
 zk 124 #[R b0 0,R b1 0,R b2 0,R b3 0,R b4 0] w (lF A w s (D.run s (.abort er aI))):=by
 have c0:=B0.cell;have c1:=B1.cell;have e2:=hR.z2;have t4:w.cell? (J (A.bt s) 4)=zv t.ay:=hR.fI ht 4 rfl;have t0:w.cell? (J (A.bt s) 0)=zt t.id:=hR.fI ht 0 rfl;have HP:=U (eY hR.drew t.id (by omega));have HA:=U (lD 4 (t.ay:Int) 4 t.ay rfl rfl (by omega) (by omega) w.drew);have HL:=U (gy hR.drew (D.place t.id) (pack 4 t.ay) (by rw[hR.nw];unfold St.place;omega) aN);have HG:=zG A.L w;obtain⟨aK,yx⟩:∃ aK,aK=(D.put (D.place t.id) (pack 4 t.ay)).dI s {kind:=6,t:=t.id,res:={aI:=aI}}:=⟨_,rfl⟩
 have aU:D.run s (.abort er aI)=(aK,some (.turns (t.keys.flatMap (mg t)) {e:=er,over:=4,aI:=aI})):=by
  rw[yx,<-yA (D.put (D.place t.id) (pack 4 t.ay)) t];simp only[St.run,cK ht];rfl
 rw[aU];obtain⟨t2,ht2,hk2,hc2,Kr⟩:∃ t2,aK.ai.getD s none=some t2∧t2.keys=t.keys∧t2.cells=t.cells∧t2.id=t.id:=by
  have ht1:(D.put (D.place t.id) (pack 4 t.ay)).ai.getD s none=some t:=ht;rw[yx];unfold St.dI;rw[cK ht1]
  by_cases ho:t.over=true
  . rw[aW ho];exact⟨t,ht1,rfl,rfl,rfl⟩
  . rw[bu ho]
    refine⟨{t with over:=true},?_,rfl,rfl,rfl⟩;show ((D.put (D.place t.id) (pack 4 t.ay)).bM s {t with over:=true}).ai.getD s none=_;rw[dB (dA ht1),aW rfl]
 have HB1:Hid (∀ H,aF A (D.put (D.place t.id) (pack 4 t.ay)) H->Grow A.L w A.L H->zk 125 #[R A.V 0,R (A.bt s) 0,.agg #[I 6,I t.id,zu 0,I 0,I 0,I 0,I 0,I 0,I 0,.slice none 0 0,I 0,I aI]] H.drew (Told A H.drew s aK)∧zS H b0 0 A.V 0∧zS H b1 0 (A.bt s) 0∧zT H b2 0 aI∧zT H (A.bt s) 0 t.id):=by
  intro H q g;rw[yx];exact⟨CY q.drew s t ht hm _ 6 t.id aI rfl rfl htl,(B0.grow g).cell,(B1.grow g).cell,(B2.grow g).cell,q.fI ht 0 rfl⟩
 have HB2 : Hid (∀ A2 w2, aF A2 aK w2 -> Grow A.L w A2.L w2 -> bU A A2 s -> A2.bx = A.bx -> ∀ w3, Below w2.heap.size w2 w3 -> zS w3 b0 0 A.V 0 ∧ zS w3 b1 0 (A.bt s) 0 ∧ zT w3 b2 0 (aI : Int) ∧ zS w3 b3 0 (A.bc s) 0 ∧ zT w3 b4 0 (er : Int) ∧ w3.cell? (J (A.bt s) 7) = some (.map (some (A.bm s))) ∧ w3.cell? (J (A.bt s) 6) = some (A2.fu s) ∧
     (∃ av cap,A2.fu s=.slice av t.keys.length cap)∧(∀ k,k<t.keys.length->∀ g cap,A2.fu s=.slice (some (J g 0)) t.keys.length cap->w3.cell? (J g k)=zt (t.keys.getD k 0:Int))∧(∀ k,k<t.keys.length->∃ g cap,A2.fu s=.slice (some (J g 0)) t.keys.length cap)∧
     (∀ F x,t.cell F=some x->(Instr.lookup 116 (.map (some (A.bm s))) (I F) false).run Tryz.prog w3=.ok (R (A.bx s F) 0) w3∧zV w3 (A.bx s F) 1 x.old)∧
     zk 126 #[R (A.bt s) 0] w3.drew (fun e E=>e=.returned (zu ((mine t:Nat):Int))∧E=w3.drew)):=by
  intro A2 w2 q g st hbx w3 Z;have r3:=q.below Z;have gg:=g.trans (Grow.below (L:=A2.L) Z);have a7:=r3.fI ht2 7 (v:=.map (some (A2.bm s))) rfl;have a6:=r3.fI ht2 6 (v:=A2.fu s) rfl;rw[st.bt] at a7 a6;rw[st.bm] at a7;have aY:=r3.mem.all (.keys s);rw[mem_keys ht2,hk2] at aY;obtain⟨av,cap,hv,_⟩:=Ow.bO aY.1;have hget:∀ k,k<t.keys.length->(t.keys.map i64)[k]? =some (i64 (t.keys.getD k 0)):=fun k Y=>by simp[List.getD,Y]
  have Tv:=flip (qi r3.drew s t2 ht2 (by omega) (by omega));rw[st.bt,show mine t2=mine t by unfold mine;rw[Kr]] at Tv;refine⟨(B0.grow gg).cell,(B1.grow gg).cell,(B2.grow gg).cell,(B3.grow gg).cell,(B4.grow gg).cell,a7,a6,⟨av,cap,hv⟩,fun k Y g' cap' hv'=>?_,fun k Y=>?_,fun F x hx=>?_,Tv⟩
  . obtain⟨g1,Ay,hv1,hc1⟩:=lG aY.1 (hget k Y)
    rw[hv'] at hv1;obtain⟨rfl,_⟩:g'=g1∧cap'=Ay:=by simpa using hv1
    exact hc1
  . obtain⟨g1,Ay,hv1,hc1⟩:=lG aY.1 (hget k Y)
    exact⟨g1,Ay,hv1⟩
  . have hx2:t2.cell F=some x:=by unfold bL.cell at hx ⊢;rw[hc2];exact hx
    have hl:=gF r3 ht2 F;have hpx:A2.px s t2 F=R (A2.bx s F) 0:=by unfold az.px;rw[hx2];rfl
    rw[hpx,hbx,st.bm] at hl;obtain⟨x0,x1,x2⟩:=r3.EF ht2 hx2;rw[hbx] at x1;exact⟨hl,x1⟩
 have HF:Hid (∀ E,zk 127 #[] E fun e H=>e=.returned (zu ((ever:Nat):Int))∧H=E):=fun E=>flip (Word.qd E)
 have Vf:Hid (∀ A2 w2,aF A2 aK w2->bU A A2 s->∀ w3 av m cap,Below w2.heap.size w2 w3->w3.ownsRow w2.heap.size 234 3 (.slice av m cap) m (l8 (t.keys.flatMap (mg t)))->zk 128 #[R A.V 0,R (A.bt s) 0,R (A.bc s) 0,.slice av m cap,.agg #[I er,I 0,.slice none 0 0,I 4,I aI]] w3 (bG A2 w3 s (aK,.turns (t.keys.flatMap (mg t)) {e:=er,over:=4,aI:=aI}))):=by
  intro A2 w2 q st w3 av m cap Z ho;have h:=CZ (q.below Z) s (t.keys.flatMap (mg t)) (.slice av m cap) (uP ho q.mem.fresh) {e:=er,over:=4,aI:=aI} er 0 4 aI (.slice none 0 0) rfl (.inr ⟨rfl,rfl⟩);rw[st.V,st.bt,st.bc] at h;exact h
 have HS:Hid (∀ (l:Nat),VL D l->∀ w,zk 85 #[zu l,I 1] w fun e E=>e=.returned (I ((af l 1:Nat):Int))∧E=w):=fun l hv E=>flip (eD l 1 1 rfl hv.lo (by have:=hv.hi;have:=hR.sl;omega) hv.u (by omega) E)
 have HKK:=U (zA hK hkl);clear hR ht hm hen hid hi1 hkl hK htl aN B0 B1 B2 B3 B4 aU yx ht2 hk2 hc2 Kr;go_enter Tryz.func124,Tryz.ntmps124;go_wp2_with fail;refine wp_region_still_tail 15 (by kernel_rfl) (by kernel_rfl) ?_;simp only[jZ,j6,kg,kr]
 repeat still_step
 still_call HP.out
 repeat still_step
 still_call HA.out
 refine wpStill_nil ?_;change wpList _ _ _ _ _ w.drew;generalize w.drew=wd at*;go_wp2_with (go_at_call 47;refine HL.out.mono ?_;rintro e H ⟨rfl,q1,q2⟩;have g1:=HG.out.trans q2;obtain⟨hf,d0,d1,d2,d3⟩:=HB1.out H q1 g1;have HQ:=U (zA hf (g1.trans (Grow.drew _ _)));clear q1 q2 g1 hf);refine wp_region_still_tail 9 (by kernel_rfl) (by kernel_rfl) ?_;simp only[jZ,j6,kg,kr]
 repeat still_step
 refine wpStill_nil ?_;change wpList _ _ _ _ _ H.drew;generalize H.drew=SG at*;go_wp2_with (first|(go_at_call 125;refine HQ.out.1.mono ?_;rintro e w2 ⟨rfl,A2,q1,q2,q3,q4,q5⟩;obtain⟨y0,y1,y2,y3,y4,y7,y6,⟨kv,kc,QC⟩,_,_,_,_⟩:=HB2.out A2 w2 q1 (HQ.out.2.trans q2) q3 q4 w2 (Below.refl _ _);rw[QC] at y6;have H2:=U (zA q1 (zA (HQ.out.2.trans q2) (zA q3 (zA q4 QC))));clear q1 q2 q3 q4 q5 QC))
 go_loopw [6,41] (fun l i wr=>∃ k:Nat,k<=t.keys.length∧i=I k∧Below w2.heap.size w2 wr∧∃ av cap,l=.slice av ((t.keys.take k).flatMap (mg t)).length cap∧wr.ownsRow w2.heap.size 234 3 l ((t.keys.take k).flatMap (mg t)).length (l8 ((t.keys.take k).flatMap (mg t)))) (fun _ i _=>t.keys.length - (intOf i).toNat)
 case atStart=>
  exact⟨0,zz _,rfl,Below.refl _ _,none,0,rfl,rfl,.inl ⟨rfl,rfl⟩⟩
 case round=>
  obtain⟨k,Y,rfl,Z,av,cap,rfl,aY⟩:=hrel;have hm0:=uQ (mg t) (Be t) (t.keys.take k)
  by_cases hlt:k<t.keys.length
  . obtain⟨x0,x1,x2,x3,x4,x7,x6,_,hget,hform,Kt,Tv⟩:=HB2.out A2 w2 H2.out.1 H2.out.2.1 H2.out.2.2.1 H2.out.2.2.2.1 wr Z
    obtain⟨g,cap',hv⟩:=hform k hlt;obtain⟨rfl,rfl⟩:kv=za g 0∧kc=cap':=by have:=H2.out.2.2.2.2.symm.trans hv;simpa using this
    have hke:=hget k hlt g kc hv;obtain⟨x,hx,ho1,ho2⟩:=HKK.out.1 (t.keys.getD k 0) (by simp[List.getD,hlt]);obtain⟨hlk,RO⟩:=Kt _ x hx;have hfs:=zf (mg t) t.keys k hlt;have SI:mg t (t.keys.getD k 0)=(if x.old≠0 then [⟨af x.old 1,mine t,ever⟩] else []):=by unfold mg;rw[hx];rfl
    rw[SI] at hfs;have hlen:(t.keys.take k).length<=1000000:=by have:=HKK.out.2;simp;omega
    have HM:=U Tv;have HO:=U (zA ho2 (zA hlt hfs));have QD:(k:Int)<(t.keys.length:Int):=by omega
    have n1:IntKind.i64.wrap ((k:Int)+1)=(k:Int)+1:=by rw[je];have:=HKK.out.2;omega
    clear x0 x2 x3 x4 y0 y1 y2 y3 y4 y7 y6 hget hform Kt hv ho1 ho2 SI hx Tv;generalize t.keys.getD k 0=F at*;generalize hxs:l8 ((t.keys.take k).flatMap (mg t))=xs at*;have NV:=U hxs;clear hxs;generalize hmm:((t.keys.take k).flatMap (mg t)).length=m at*;have UK:=U hmm;clear hmm hfs;have hm1:m<3000001:=by omega
    clear hm0 hlen Y;generalize A.bx s F=bx at*;generalize mine t=mt at*
    by_cases hl:x.old≠0
    . have hl':x.old≠0:=hl
      obtain⟨e1,e2,e3,e4,e5⟩:=qE (x:=x.old) (c:=0) (ci:=0) (by omega);have Yw:=U (fun E=>HS.out x.old (HO.out.1.resolve_left hl) E);have hfs:=HO.out.2.2;simp only[aW hl] at hfs;have sM:=U hfs;have HOW:=U (zA aY Z);clear hfs hl hl' aY Z;generalize af x.old 1=Vs at*;go_wp2_with fail
      go_region_law (first|(refine KC wr _ _ _ rfl w2 HOW.out.2 av m cap xs rfl HOW.out.1 (by omega) (Vs:Int) (mt:Int) ((ever:Nat):Int) rfl rfl ?_;intro mI gK wl ql pl;have JK:=U (zA ql pl);clear ql pl)|(go_simp;go_at_call 85;refine (Yw.out _).mono ?_;rintro e E ⟨rfl,rfl⟩)|(go_simp;go_at_call 126;refine HM.out.mono ?_;rintro e E ⟨rfl,rfl⟩)|(go_simp;go_at_call 127;refine (HF.out _).mono ?_;rintro e E ⟨rfl,rfl⟩))
      all_goals
       go_wp2_with fail
       go_roundw
       case rel=>
        refine⟨k+1,by have:=HO.out.2.1;omega,rfl,JK.out.2,mI,gK,?_,?_⟩
        . rw[sM.out,jb,UK.out];rfl
        . rw[sM.out,jb,UK.out,jN,NV.out];exact JK.out.1
       case measure=>have:=HO.out.2.1;simp[intOf];omega
    . have ho0:x.old=0:=by omega
      obtain⟨e1,e2,e3,e4,e5⟩:=rT (x:=x.old) (c:=0) (ci:=0) (by omega);have hfs:=HO.out.2.2;simp only[bu hl,List.append_nil] at hfs;have sM:=U hfs;clear hfs hl ho0;go_wp2_with fail
      go_roundw
      case rel=>exact⟨k+1,by have:=HO.out.2.1;omega,rfl,Z,av,cap,by rw[sM.out,UK.out],by rw[sM.out,UK.out,NV.out];exact aY⟩
      case measure=>have:=HO.out.2.1;simp[intOf];omega
  . obtain rfl:k=t.keys.length:=by omega
    rw[List.take_length] at aY ⊢;obtain⟨x0,x1,x2,x3,x4,x7,x6,_⟩:=HB2.out A2 w2 H2.out.1 H2.out.2.1 H2.out.2.2.1 H2.out.2.2.2.1 wr Z;have HE:=U (zA (Vf.out A2 w2 H2.out.1 H2.out.2.2.1 wr av _ cap Z aY) (Grow.below (L:=A2.L) Z));clear aY Z hlt Y hm0;generalize (t.keys.flatMap (mg t)).length=m at*;go_wp2_with (go_at_call 128;refine HE.out.1.mono ?_;rintro e w4 ⟨A3,v,rfl,p1,p2,p3,p4⟩);go_ret;exact⟨A3,v,rfl,p1,(H2.out.2.1.trans HE.out.2).trans p2,H2.out.2.2.1.trans p3,p4⟩
variable {A:az} {D:St} {w:World}
def gB (id ax bg:Nat):bL:={id:=id,ax:=ax,aJ:=bg,ay:=0,ops:=0,keys:=[],cells:=[],reads:=[],aR:=[],over:=false}
theorem wM (D:St) (x:Nat):(D.dw x).count=D.count+1:=by unfold St.dw St.cB;split<;>rfl
theorem Fs (D:St) (x id:Nat):(D.dw x).place id=D.place id:=by unfold St.dw St.cB;split<;>rfl
theorem IV (D:St) (x:Nat):(D.dw x).aQ=D.aQ:=by unfold St.dw St.cB;split<;>rfl
theorem zq (D:St) (i a b:Nat):(D.cB i a b).count=D.count+1:=by unfold St.cB;split<;>rfl
theorem zw (D:St) (i a b id:Nat):(D.cB i a b).place id=D.place id:=by unfold St.cB;split<;>rfl
theorem Dr (D:St) (i a b:Nat):(D.cB i a b).ai=D.ai:=by unfold St.cB;split<;>rfl
theorem zx (D:St) (i a b:Nat):(D.cB i a b).calls=D.calls:=by unfold St.cB;split<;>rfl
theorem Dt (D:St) (i a b:Nat):(D.cB i a b).aQ=D.aQ:=by unfold St.cB;split<;>rfl
def KD (A:az) (w:World) (bF:St) (id:Nat):Ending->World->Prop:=fun e E=>∃ A',e=.returned (.tuple #[I id,I 0])∧Live A' bF E∧Grow A.L w A'.L E∧A'.V=A.V
theorem IW (hL:Live A D w) (s:Nat) (hs:s<8) (ax:Nat) (hl1:1<=ax) (hl2:ax<=3) (hn:D.ai.getD s none=none) (hcn:D.calls.getD s none=none) (hmd:D.aB<2000) (hx:D.word 0<18446744073709551616) (qo:aj (D.word 0)<281474976710000) (hlim:aj (D.word 0)<D.limit) (hlo:aZ (D.word 0)=0) (aN:D.count<3000000000000000000) (htl:D.aQ.length<1000000):
 zk 9 #[R A.V 0,I s,I ax] w (KD A w (((((({D.tick with aB:=D.aB+1}:St).cB 0 (D.word 0) (aV (aj (D.word 0)+1) 0)).put (D.place (D.aB+1)) (pack 1 0)).put (1+s) (aj (D.word 0)+1)).bM s (gB (D.aB+1) ax (aj (D.word 0)+1))).event {kind:=1,t:=D.aB+1,n:=aj (D.word 0)+1,op:=⟨0,0,0,ax⟩}) (D.aB+1)):=by
 have hR:=hL.rep;generalize Fu:({D.tick with aB:=D.aB+1}:St).cB 0 (D.word 0) (aV (aj (D.word 0)+1) 0)=eF;have yB:Hid (({D.tick with aB:=D.aB+1}:St).cB 0 (D.word 0) (aV (aj (D.word 0)+1) 0)=eF∧eF.place (D.aB+1)=D.place (D.aB+1)∧eF.ai=D.ai∧eF.calls=D.calls∧eF.aQ=D.aQ∧eF.count<3000000000000000010):=by
  refine⟨Fu,?_,?_,?_,?_,?_⟩<;>rw[<-Fu]
  . rw[zw];rfl
  . rw[Dr];rfl
  . rw[zx];rfl
  . rw[Dt];rfl
  . rw[zq];show D.count+1+1<_;omega
 clear Fu;have b1:(s:Int)<8:=by omega
 have b0:(0:Int)<=(s:Int):=by omega
 have gG:=U (fQ s hs);have wN:=U (vK ax hl1 hl2);have e2:=hR.z2;have v5:=hR.bT (5+s) (dQ A D hs);rw[show A.tp D s=.pointer none by unfold az.tp;rw[hn]] at v5;have v21:w.cell? (J A.V 21)=zt (D.aB:Int):=hR.bT 21 rfl;have d1:decide ((2000:Int)<=(D.aB:Int))=false:=by simp;omega
 have d2:((2000:Int)<=(D.aB:Int))=False:=by simp;omega
 have d3:(2000<=D.aB)=False:=by simp;omega
 have l1:decide ((D.limit:Int)<=(aj (D.word 0):Int))=false:=by simp;omega
 have l2:((D.limit:Int)<=(aj (D.word 0):Int))=False:=by simp;omega
 have l3:(D.limit<=aj (D.word 0))=False:=by simp;omega
 have k1:decide ((0:Int)<(aZ (D.word 0):Int))=false:=by simp;omega
 have k2:((0:Int)<(aZ (D.word 0):Int))=False:=by simp;omega
 have k3:(0<aZ (D.word 0))=False:=by simp;omega
 have n1:IntKind.i64.wrap ((D.aB:Int)+1)=(D.aB:Int)+1:=by rw[je];omega
 have n2:IntKind.u64.wrap ((aj (D.word 0):Int)+1)=(aj (D.word 0):Int)+1:=by rw[IntKind.wrap_u64];omega
 have n3:IntKind.i64.wrap (1+(s:Int))=1+(s:Int):=by rw[je];omega
 have Tw:=U (iP hR 0 0 rfl (by rw[hR.nw];omega) (by omega));have Tx:=U (fun E=>jI (D.word 0) hx E);have H1:Hid (∀ H,aF A D.tick H->Grow A.L w A.L H->zV H A.V 1 (D.limit:Int)∧zT H A.V 21 (D.aB:Int)∧H.frozen? (J A.V 21)=false):=
  fun H r g=>⟨r.bT 1 rfl,r.bT 21 rfl,r.iE 21⟩
 have hmm:∀ w,(Instr.makeMap 116 none).run Tryz.prog w=.ok (.map (some w.heap.size)) (w.alloc (.map #[] 0)):=fun w=>rfl
 have tN:=U (zA hL (zA hs (zA hn (zA hcn (zA hmd (zA qo (zA aN (zA htl hx))))))));clear hL hs hl1 hl2 hn hcn hmd hx qo hlim hlo aN htl;clear hR;go_enter Tryz.func9,Tryz.ntmps9;go_wp2_with (first|(go_at_call 40;refine (gG.out _).mono ?_;rintro e E ⟨rfl,rfl⟩)|(go_at_call 41;refine (wN.out _).mono ?_;rintro e E ⟨rfl,rfl⟩)|(go_at_call 42;refine Tw.out.mono ?_;rintro e H ⟨rfl,q1,q2⟩;obtain⟨y1,y2,y3⟩:=H1.out H q1 q2;have tZ:=U (zA q1 q2);clear q1 q2)|(go_at_call 43;refine (Tx.out _).mono ?_;rintro e E ⟨rfl,rfl⟩));obtain⟨hL,hs,hn,hcn,hmd,qo,aN,htl,hx⟩:=tN.out;obtain⟨r1,g1⟩:=tZ.out;obtain⟨rm,gm⟩:=r1.Gv (D.aB+1);rw[show ((D.aB+1:Nat):Int)=(D.aB:Int)+1 from rfl] at rm gm;have hz3:(H.setCell (J A.V 21) (I ((D.aB:Int)+1))).heap.size=H.heap.size:=by simp[World.setCell]
 generalize hw3:H.setCell (J A.V 21) (I ((D.aB:Int)+1))=w3 at*;generalize hw4:(w3.alloc (.map #[] 0)).alloc _=w4;have r4:aF A ({D.tick with aB:=D.aB+1}:St) w4:=by rw[<-hw4];exact (rm.alloc _).alloc _
 have Ty:Grow A.L w3 A.L w4:=by rw[<-hw4];exact (Grow.alloc _ _ _).trans (Grow.alloc _ _ _)
 have g4:Grow A.L w A.L w4:=(g1.trans gm).trans Ty;have Ou:w4.heap[H.heap.size]? =some (.map #[] 0):=by rw[<-hw4,<-hz3];exact (Below.heap_alloc _ _ _ (by simp)).trans (heap_alloc_new w3 _)
 have hb4:w4.heap[H.heap.size+1]? =some (.cells #[I ((D.aB:Int)+1),I ax,I s,zu ((aj (D.word 0):Int)+1),zu 0,I 0,.slice none 0 0,.map (some H.heap.size),.slice none 0 0,.slice none 0 0,.int .u32 0,.int .i32 0,.int .u32 0,.bool false] 131):=by rw[<-hw4,<-hz3];exact heap_alloc2_new w3 _ _
 have Fv:A.L H.heap.size=none:=by rw[<-hz3];exact rm.mem.fresh _ (zr _)
 have hbL:A.L (H.heap.size+1)=none:=by rw[<-hz3];exact rm.mem.fresh _ (by omega)
 have hle:w.heap.size<=H.heap.size:=g1.size;have F4:Fix A.L w4 (H.heap.size+1) (.cells #[I ((D.aB:Int)+1),I ax,I s,zu ((aj (D.word 0):Int)+1),zu 0,I 0,.slice none 0 0,.map (some H.heap.size),.slice none 0 0,.slice none 0 0,.int .u32 0,.int .i32 0,.int .u32 0,.bool false] 131):=⟨hbL,hb4⟩
 have M4:Fix A.L w4 H.heap.size (.map #[] 0):=⟨Fv,Ou⟩
 have a2:=r4.bT 2 (v:=R A.ba 0) rfl;have a3:=F4.cell 3 (v:=zu ((aj (D.word 0):Int)+1)) rfl;have Y:zk 46 #[zu ((aj (D.word 0):Int)+1),I 0] w4.drew fun e E=>e=.returned (zu ((aV (aj (D.word 0)+1) 0:Nat):Int))∧E=w4.drew:=flip (oF (aj (D.word 0)+1) 0 (by omega) (by omega) w4.drew)
 have HC:=U Y;have KE:=U (uT r4.drew 0 (D.word 0) (aV (aj (D.word 0)+1) 0) 0 rfl (by rw[r4.nw];omega) (by show D.count+1<_;omega));have H4:=U (zA g4 (zA F4 (zA M4 (zA Fv (zA hbL hle)))));clear hL hs hn hcn hmd qo aN htl hx r1 g1 rm gm hz3 hw3 hw4 r4 Ty g4 Ou hb4 Fv hbL hle F4 M4 Y;refine wp_region_still_tail 10 (by kernel_rfl) (by kernel_rfl) ?_;simp only[jZ,j6,kg,kr]
 repeat still_step
 still_call HC.out
 refine wpStill_nil ?_;change wpList _ _ _ _ _ w4.drew;have VG:Hid (Grow A.L w4 A.L w4.drew):=Grow.drew _ _;generalize w4.drew=wd4 at*;go_wp2_with (go_at_call 45;refine KE.out.mono ?_;rintro e w5 ⟨rfl,q1,q2⟩);obtain⟨g4,F4,M4,Fv,hbL,hle⟩:=H4.out;obtain⟨hL,hs,hn,hcn,hmd,qo,aN,htl,hx⟩:=tN.out;rw[yB.out.1] at q1;obtain⟨-,p4,KF,IX,Ov,KG⟩:=yB.out;have Ox:=VG.out.trans q2;have F5:=F4.grow Ox;have M5:=M4.grow Ox;have g5:=g4.trans Ox;have a2:=q1.bT 2 (v:=R A.ba 0) rfl;have a0:=F5.cell 0 (v:=I ((D.aB:Int)+1)) rfl;have hpl:zk 48 #[R A.V 0,I ((D.aB:Int)+1)] w5.drew fun e E=>e=.returned (I ((D.place (D.aB+1):Nat):Int))∧E=w5.drew:=by
  have h:=eY q1.drew (D.aB+1) (by omega);rw[p4] at h;exact h
 have QR:=U hpl;have KH:=U (lD 1 0 1 0 rfl rfl (by omega) (by omega) w5.drew);have HST:=U (gy q1.drew (D.place (D.aB+1)) (pack 1 0) (by rw[q1.nw];have:=q1.sl;have:=congrArg (fun x=>x) p4;unfold St.place at p4 ⊢;omega) (by omega));have H5:=U (zA g5 (zA F5 (zA M5 q1)));clear hL hs hn hcn hmd qo aN htl hx g4 F4 M4 Fv hbL hle Ox F5 M5 g5 q1 q2 hpl p4 KF IX Ov KG;refine wp_region_still_tail 11 (by kernel_rfl) (by kernel_rfl) ?_;simp only[jZ,j6,kg,kr]
 repeat still_step
 still_call QR.out
 still_call KH.out
 refine wpStill_nil ?_;change wpList _ _ _ _ _ w5.drew;have VH:Hid (Grow A.L w5 A.L w5.drew):=Grow.drew _ _;generalize w5.drew=Yx at*;go_wp2_with (go_at_call 47;refine HST.out.mono ?_;rintro e w6 ⟨rfl,q1,q2⟩);obtain⟨g5,F5,M5,_⟩:=H5.out;obtain⟨hL,hs,hn,hcn,hmd,qo,aN,htl,hx⟩:=tN.out;have KG:=yB.out.2.2.2.2.2;have yj:=VH.out.trans q2;have F6:=F5.grow yj;have M6:=M5.grow yj;have g6:=g5.trans yj;have a2:=q1.bT 2 (v:=R A.ba 0) rfl;have a3:=F6.cell 3 (v:=zu ((aj (D.word 0):Int)+1)) rfl;have RQ:=U (AQ q1.drew (1+s) (aj (D.word 0)+1) (1+(s:Int)) ((aj (D.word 0):Int)+1) (by omega) (by omega) (by rw[q1.nw];omega) (by show eF.count+1<_;omega));have H6:=U (zA g6 (zA F6 M6));have HV5:Hid (∀ w7,aF A ((eF.put (D.place (D.aB+1)) (pack 1 0)).put (1+s) (aj (D.word 0)+1)) w7->w7.cell? (J A.V (5+s))=some (.pointer none)∧w7.frozen? (J A.V (5+s))=false):=by
  intro w7 r;have h:=r.bT (5+s) (dQ A _ hs);rw[show A.tp ((eF.put (D.place (D.aB+1)) (pack 1 0)).put (1+s) (aj (D.word 0)+1)) s=.pointer none by unfold az.tp;rw[show ((eF.put (D.place (D.aB+1)) (pack 1 0)).put (1+s) (aj (D.word 0)+1)).ai.getD s none=none by show eF.ai.getD s none=none;rw[yB.out.2.2.1];exact hn]] at h;exact⟨h,r.iE _⟩
 clear hL hs hn hcn hmd qo aN htl hx g5 F5 M5 yj F6 M6 g6 q1 q2 KG;refine wp_region_still_tail 10 (by kernel_rfl) (by kernel_rfl) ?_;simp only[jZ,j6,kg,kr]
 repeat still_step
 refine wpStill_nil ?_;change wpList _ _ _ _ _ w6.drew;have VI:Hid (Grow A.L w6 A.L w6.drew):=Grow.drew _ _;generalize w6.drew=Yy at*;go_wp2_with (go_at_call 47;refine RQ.out.mono ?_;rintro e w7 ⟨rfl,q1,q2⟩;obtain⟨m5,z5⟩:=HV5.out w7 q1;have H7:=U (zA q1 q2);clear q1 q2);obtain⟨g6,F6,M6⟩:=H6.out;obtain⟨q1,q2⟩:=H7.out;obtain⟨_,_,_,Fv,hbL,hle⟩:=H4.out;obtain⟨hL,hs,hn,hcn,hmd,qo,aN,htl,hx⟩:=tN.out;obtain⟨-,p4,KF,IX,Ov,KG⟩:=yB.out;have Oy:=VI.out.trans q2;have F7:=F6.grow Oy;have M7:=M6.grow Oy;have g7:=g6.trans Oy;have Tz:((eF.put (D.place (D.aB+1)) (pack 1 0)).put (1+s) (aj (D.word 0)+1)).ai.getD s none=none:=by show eF.ai.getD s none=none;rw[KF];exact hn
 have hblk:w7.heap[H.heap.size+1]? =some (.cells (fw (A.gJ s (H.heap.size+1) H.heap.size) s (gB (D.aB+1) ax (aj (D.word 0)+1))).toArray 131):=by
  rw[show (fw (A.gJ s (H.heap.size+1) H.heap.size) s (gB (D.aB+1) ax (aj (D.word 0)+1))).toArray=#[I ((D.aB:Int)+1),I ax,I s,zu ((aj (D.word 0):Int)+1),zu 0,I 0,.slice none 0 0,.map (some H.heap.size),.slice none 0 0,.slice none 0 0,.int .u32 0,.int .i32 0,.int .u32 0,.bool false] by simp[fw,az.gJ,lq,ji,gB]];exact F7.2
 obtain⟨rA,gA⟩:=q1.CG g7 F7.1 M7.1 hs (by omega) hle (by omega) (gB (D.aB+1) ax (aj (D.word 0)+1)) rfl rfl rfl rfl hblk M7.2 Tz;obtain⟨A8,qp⟩:∃ A8:az,A8=A.gJ s (H.heap.size+1) H.heap.size:=⟨_,rfl⟩
 rw[<-qp] at rA gA;have e8:A8.V=A.V:=by rw[qp];rfl
 have QS:A8.bt s=H.heap.size+1:=by rw[qp];exact aW rfl
 have vC:(((eF.put (D.place (D.aB+1)) (pack 1 0)).put (1+s) (aj (D.word 0)+1)).bM s (gB (D.aB+1) ax (aj (D.word 0)+1))).ai.getD s none=some (gB (D.aB+1) ax (aj (D.word 0)+1)):=by rw[dB (by show s<eF.ai.length;rw[KF,hL.rep.n8];exact hs),aW rfl]
 generalize hw8:World.setCell w7 _ _=w8 at*;have c0:=rA.fI vC 0 (v:=I ((D.aB:Int)+1)) rfl;have c3:=rA.fI vC 3 (v:=zu ((aj (D.word 0):Int)+1)) rfl;rw[QS] at c0 c3;have hev:=mU rA.drew s {kind:=1,t:=D.aB+1,n:=aj (D.word 0)+1,op:=⟨0,0,0,ax⟩} 1 ((D.aB:Int)+1) ((aj (D.word 0):Int)+1) 0 0 0 ax 0 0 0 0 none 0 0 rfl (lC.nil _ _) (by show eF.aQ.length<_;rw[Ov];exact htl);rw[e8] at hev;have HE:=U hev;have H8:Hid (∀ A9 w9,aF A9 ((((eF.put (D.place (D.aB+1)) (pack 1 0)).put (1+s) (aj (D.word 0)+1)).bM s (gB (D.aB+1) ax (aj (D.word 0)+1))).event {kind:=1,t:=D.aB+1,n:=aj (D.word 0)+1,op:=⟨0,0,0,ax⟩}) w9->bU A8 A9 s->w9.cell? ⟨H.heap.size+1,0,none⟩=zt ((D.aB:Int)+1)):=by
  intro A9 w9 r st;have h:=r.fI (show ((((eF.put (D.place (D.aB+1)) (pack 1 0)).put (1+s) (aj (D.word 0)+1)).bM s (gB (D.aB+1) ax (aj (D.word 0)+1))).event {kind:=1,t:=D.aB+1,n:=aj (D.word 0)+1,op:=⟨0,0,0,ax⟩}).ai.getD s none=some (gB (D.aB+1) ax (aj (D.word 0)+1)) from vC) 0 (v:=I ((D.aB:Int)+1)) rfl;rw[st.bt,QS] at h;exact h
 have VJ:=U (zA qp (zA gA (zA IX vC)));clear hL hs hn hcn hmd qo aN htl hx g6 F6 M6 Oy F7 M7 g7 q1 q2 Fv hbL hle p4 KF IX Ov KG Tz hblk rA gA qp e8 QS vC hw8 hev m5 z5;refine wp_region_still_tail 12 (by kernel_rfl) (by kernel_rfl) ?_;simp only[jZ,j6,kg,kr]
 repeat still_step
 refine wpStill_nil ?_;change wpList _ _ _ _ _ w8.drew;have VK:Hid (∀ L,Grow L w8 L w8.drew):=fun L=>Grow.drew _ _
 generalize w8.drew=Yz at*;go_wp2_with (go_at_call 50;refine HE.out.mono ?_;rintro e w9 ⟨rfl,A9,p1,p2,p3,p4,p5⟩;have t0:=H8.out A9 w9 p1 p3;have HP:=U (zA p1 (zA p2 p3));clear p1 p2 p3 p4 p5)
 go_ret2
 obtain⟨p1,p2,p3⟩:=HP.out;obtain⟨qp,gA,IX,vC⟩:=VJ.out;obtain⟨hL,hs,hn,hcn,_⟩:=tN.out;have gg:=(gA.trans (VK.out _)).trans p2;have hcl:∀ q,((((eF.put (D.place (D.aB+1)) (pack 1 0)).put (1+s) (aj (D.word 0)+1)).bM s (gB (D.aB+1) ax (aj (D.word 0)+1))).event {kind:=1,t:=D.aB+1,n:=aj (D.word 0)+1,op:=⟨0,0,0,ax⟩}).calls.getD q none=D.calls.getD q none:=fun q=>by show eF.calls.getD q none=_;rw[IX]
 rw[yB.out.1.symm] at p1 ⊢;refine⟨A9,rfl,Live.of (s:=s) hL (kQ ({D.tick with aB:=D.aB+1}:St) 0 (D.word 0) (aV (aj (D.word 0)+1) 0)) p1 gg ⟨p3.bf.trans (by rw[qp];rfl),p3.mp.trans (by rw[qp];rfl),p3.mt.trans (by rw[qp];funext k;show (if k=s then 0 else A.mt k)=A.mt k;by_cases Y:k=s;rw[aW Y,hL.mt k];rw[bu Y]),fun q hq=>by rw[p3.bt,qp];exact bu hq,fun q _=>by rw[p3.bc,qp];rfl,fun q hq=>(p3.bx q hq).trans (by rw[qp];rfl),fun q hq=>(p3.aX q hq).trans (by rw[qp];rfl),fun q _=>by rw[p3.bE,qp];rfl,fun q _=>by rw[p3.bH,qp];rfl⟩ (fun q hq=>?_) (fun c' hcc=>?_) (fun _=>?_),gg,p3.V.trans (by rw[qp];rfl)⟩
 . rw[yB.out.1];exact hcl q
 . rw[yB.out.1,hcl s,hcn] at hcc;cases hcc
 . rw[p3.bH,qp];exact hL.idle s hs hcn
theorem Fw (hL:Live A D w) (s:Nat) (hs:s<8) (ax:Nat) (hl1:1<=ax) (hl2:ax<=3) (hn:D.ai.getD s none=none) (hcn:D.calls.getD s none=none) (hmd:D.aB<2000) (hx:D.word 0<18446744073709551616) (qo:aj (D.word 0)<281474976710000) (hlim:aj (D.word 0)<D.limit) (hlo:0<aZ (D.word 0)∧aZ (D.word 0)<=2000) (aN:D.count<3000000000000000000) (htl:D.aQ.length<1000000):
 zk 9 #[R A.V 0,I s,I ax] w (KD A w (((((({(D.tick.dw (D.word 0)) with aB:=D.aB+1}:St).cB 0 (D.word 0) (aV (aj (D.word 0)+1) 0)).put (D.place (D.aB+1)) (pack 1 0)).put (1+s) (aj (D.word 0)+1)).bM s (gB (D.aB+1) ax (aj (D.word 0)+1))).event {kind:=1,t:=D.aB+1,n:=aj (D.word 0)+1,op:=⟨0,0,0,ax⟩}) (D.aB+1)):=by
 have hR:=hL.rep;generalize Fu:({(D.tick.dw (D.word 0)) with aB:=D.aB+1}:St).cB 0 (D.word 0) (aV (aj (D.word 0)+1) 0)=eF;have yB:Hid (({(D.tick.dw (D.word 0)) with aB:=D.aB+1}:St).cB 0 (D.word 0) (aV (aj (D.word 0)+1) 0)=eF∧eF.place (D.aB+1)=D.place (D.aB+1)∧eF.ai=D.ai∧eF.calls=D.calls∧eF.aQ=D.aQ∧eF.count<3000000000000000010):=by
  refine⟨Fu,?_,?_,?_,?_,?_⟩<;>rw[<-Fu]
  . rw[zw];exact Fs D.tick (D.word 0) (D.aB+1)
  . rw[Dr];exact tX D.tick (D.word 0)
  . rw[zx];exact Fb D.tick (D.word 0)
  . rw[Dt];exact IV D.tick (D.word 0)
  . rw[zq];show (D.tick.dw (D.word 0)).count+1<_;rw[wM];show D.count+1+1+1<_;omega
 clear Fu;have b1:(s:Int)<8:=by omega
 have b0:(0:Int)<=(s:Int):=by omega
 have gG:=U (fQ s hs);have wN:=U (vK ax hl1 hl2);have e2:=hR.z2;have v5:=hR.bT (5+s) (dQ A D hs);rw[show A.tp D s=.pointer none by unfold az.tp;rw[hn]] at v5;have v21:w.cell? (J A.V 21)=zt (D.aB:Int):=hR.bT 21 rfl;have d1:decide ((2000:Int)<=(D.aB:Int))=false:=by simp;omega
 have d2:((2000:Int)<=(D.aB:Int))=False:=by simp;omega
 have d3:(2000<=D.aB)=False:=by simp;omega
 have l1:decide ((D.limit:Int)<=(aj (D.word 0):Int))=false:=by simp;omega
 have l2:((D.limit:Int)<=(aj (D.word 0):Int))=False:=by simp;omega
 have l3:(D.limit<=aj (D.word 0))=False:=by simp;omega
 have k1:decide ((0:Int)<(aZ (D.word 0):Int))=true:=by simp;omega
 have k2:((0:Int)<(aZ (D.word 0):Int))=True:=by simp;omega
 have k3:(0<aZ (D.word 0))=True:=by simp;omega
 have n1:IntKind.i64.wrap ((D.aB:Int)+1)=(D.aB:Int)+1:=by rw[je];omega
 have n2:IntKind.u64.wrap ((aj (D.word 0):Int)+1)=(aj (D.word 0):Int)+1:=by rw[IntKind.wrap_u64];omega
 have n3:IntKind.i64.wrap (1+(s:Int))=1+(s:Int):=by rw[je];omega
 have Tw:=U (iP hR 0 0 rfl (by rw[hR.nw];omega) (by omega));have Tx:=U (fun E=>jI (D.word 0) hx E);have H1:Hid (∀ H,aF A D.tick H->Grow A.L w A.L H->zV H A.V 1 (D.limit:Int)∧zT H A.V 21 (D.aB:Int)∧H.frozen? (J A.V 21)=false∧zk 44 #[R A.V 0,zu (D.word 0:Int)] H (uL A H (D.tick.dw (D.word 0)) (.tuple #[]))):=
  fun H r g=>⟨r.bT 1 rfl,r.bT 21 rfl,r.iE 21,vT r (D.word 0) hx hlo.2 (by show D.count+1<_;omega)⟩
 have H2 : Hid (∀ H w2, aF A (D.tick.dw (D.word 0)) w2 -> Grow A.L H A.L w2 -> zT w2 A.V 21 (D.aB : Int) ∧ w2.frozen? (J A.V 21) = false) := fun H w2 r g => ⟨by
     have h:=r.bT 21 (v:=I ((D.tick.dw (D.word 0)).aB:Int)) rfl
     rw[show (D.tick.dw (D.word 0)).aB=D.aB by unfold St.dw St.cB;split<;>rfl] at h
     exact h,r.iE 21⟩
 have hmm:∀ w,(Instr.makeMap 116 none).run Tryz.prog w=.ok (.map (some w.heap.size)) (w.alloc (.map #[] 0)):=fun w=>rfl
 have tN:=U (zA hL (zA hs (zA hn (zA hcn (zA hmd (zA qo (zA aN (zA htl hx))))))));clear hL hs hl1 hl2 hn hcn hmd hx qo hlim hlo aN htl;clear hR;go_enter Tryz.func9,Tryz.ntmps9;go_wp2_with (first|(go_at_call 40;refine (gG.out _).mono ?_;rintro e E ⟨rfl,rfl⟩)|(go_at_call 41;refine (wN.out _).mono ?_;rintro e E ⟨rfl,rfl⟩)|(go_at_call 42;refine Tw.out.mono ?_;rintro e H ⟨rfl,q1,q2⟩;obtain⟨y1,y2,y3,PR⟩:=H1.out H q1 q2;have HH:=U PR;clear PR;have tZ:=U (zA q1 q2);clear q1 q2)|(go_at_call 43;refine (Tx.out _).mono ?_;rintro e E ⟨rfl,rfl⟩)|(go_at_call 44;refine HH.out.mono ?_;rintro e w2 ⟨rfl,q1,q2⟩;obtain⟨y4,y5⟩:=H2.out H w2 q1 q2;have Fh:=U (zA q1 q2);clear q1 q2));obtain⟨hL,hs,hn,hcn,hmd,qo,aN,htl,hx⟩:=tN.out;obtain⟨r1,g12⟩:=Fh.out;have g1:=tZ.out.2.trans g12;clear g12;obtain⟨rm,gm⟩:=r1.Gv (D.aB+1);rw[show ((D.aB+1:Nat):Int)=(D.aB:Int)+1 from rfl] at rm gm;have hz3:(w2.setCell (J A.V 21) (I ((D.aB:Int)+1))).heap.size=w2.heap.size:=by simp[World.setCell]
 generalize hw3:w2.setCell (J A.V 21) (I ((D.aB:Int)+1))=w3 at*;generalize hw4:(w3.alloc (.map #[] 0)).alloc _=w4;have r4:aF A ({(D.tick.dw (D.word 0)) with aB:=D.aB+1}:St) w4:=by rw[<-hw4];exact (rm.alloc _).alloc _
 have Ty:Grow A.L w3 A.L w4:=by rw[<-hw4];exact (Grow.alloc _ _ _).trans (Grow.alloc _ _ _)
 have g4:Grow A.L w A.L w4:=(g1.trans gm).trans Ty;have Ou:w4.heap[w2.heap.size]? =some (.map #[] 0):=by rw[<-hw4,<-hz3];exact (Below.heap_alloc _ _ _ (by simp)).trans (heap_alloc_new w3 _)
 have hb4:w4.heap[w2.heap.size+1]? =some (.cells #[I ((D.aB:Int)+1),I ax,I s,zu ((aj (D.word 0):Int)+1),zu 0,I 0,.slice none 0 0,.map (some w2.heap.size),.slice none 0 0,.slice none 0 0,.int .u32 0,.int .i32 0,.int .u32 0,.bool false] 131):=by rw[<-hw4,<-hz3];exact heap_alloc2_new w3 _ _
 have Fv:A.L w2.heap.size=none:=by rw[<-hz3];exact rm.mem.fresh _ (zr _)
 have hbL:A.L (w2.heap.size+1)=none:=by rw[<-hz3];exact rm.mem.fresh _ (by omega)
 have hle:w.heap.size<=w2.heap.size:=g1.size;have F4:Fix A.L w4 (w2.heap.size+1) (.cells #[I ((D.aB:Int)+1),I ax,I s,zu ((aj (D.word 0):Int)+1),zu 0,I 0,.slice none 0 0,.map (some w2.heap.size),.slice none 0 0,.slice none 0 0,.int .u32 0,.int .i32 0,.int .u32 0,.bool false] 131):=⟨hbL,hb4⟩
 have M4:Fix A.L w4 w2.heap.size (.map #[] 0):=⟨Fv,Ou⟩
 have a2:=r4.bT 2 (v:=R A.ba 0) rfl;have a3:=F4.cell 3 (v:=zu ((aj (D.word 0):Int)+1)) rfl;have Y:zk 46 #[zu ((aj (D.word 0):Int)+1),I 0] w4.drew fun e E=>e=.returned (zu ((aV (aj (D.word 0)+1) 0:Nat):Int))∧E=w4.drew:=flip (oF (aj (D.word 0)+1) 0 (by omega) (by omega) w4.drew)
 have HC:=U Y;have KE:=U (uT r4.drew 0 (D.word 0) (aV (aj (D.word 0)+1) 0) 0 rfl (by rw[r4.nw];omega) (by show (D.tick.dw (D.word 0)).count<_;have:=wM D.tick (D.word 0);have e:D.tick.count=D.count+1:=rfl;omega));have H4:=U (zA g4 (zA F4 (zA M4 (zA Fv (zA hbL hle)))));clear hL hs hn hcn hmd qo aN htl hx r1 g1 rm gm hz3 hw3 hw4 r4 Ty g4 Ou hb4 Fv hbL hle F4 M4 Y;refine wp_region_still_tail 10 (by kernel_rfl) (by kernel_rfl) ?_;simp only[jZ,j6,kg,kr]
 repeat still_step
 still_call HC.out
 refine wpStill_nil ?_;change wpList _ _ _ _ _ w4.drew;have VG:Hid (Grow A.L w4 A.L w4.drew):=Grow.drew _ _;generalize w4.drew=wd4 at*;go_wp2_with (go_at_call 45;refine KE.out.mono ?_;rintro e w5 ⟨rfl,q1,q2⟩);obtain⟨g4,F4,M4,Fv,hbL,hle⟩:=H4.out;obtain⟨hL,hs,hn,hcn,hmd,qo,aN,htl,hx⟩:=tN.out;rw[yB.out.1] at q1;obtain⟨-,p4,KF,IX,Ov,KG⟩:=yB.out;have Ox:=VG.out.trans q2;have F5:=F4.grow Ox;have M5:=M4.grow Ox;have g5:=g4.trans Ox;have a2:=q1.bT 2 (v:=R A.ba 0) rfl;have a0:=F5.cell 0 (v:=I ((D.aB:Int)+1)) rfl;have hpl:zk 48 #[R A.V 0,I ((D.aB:Int)+1)] w5.drew fun e E=>e=.returned (I ((D.place (D.aB+1):Nat):Int))∧E=w5.drew:=by
  have h:=eY q1.drew (D.aB+1) (by omega);rw[p4] at h;exact h
 have QR:=U hpl;have KH:=U (lD 1 0 1 0 rfl rfl (by omega) (by omega) w5.drew);have HST:=U (gy q1.drew (D.place (D.aB+1)) (pack 1 0) (by rw[q1.nw];have:=q1.sl;have:=congrArg (fun x=>x) p4;unfold St.place at p4 ⊢;omega) (by omega));have H5:=U (zA g5 (zA F5 (zA M5 q1)));clear hL hs hn hcn hmd qo aN htl hx g4 F4 M4 Fv hbL hle Ox F5 M5 g5 q1 q2 hpl p4 KF IX Ov KG;refine wp_region_still_tail 11 (by kernel_rfl) (by kernel_rfl) ?_;simp only[jZ,j6,kg,kr]
 repeat still_step
 still_call QR.out
 still_call KH.out
 refine wpStill_nil ?_;change wpList _ _ _ _ _ w5.drew;have VH:Hid (Grow A.L w5 A.L w5.drew):=Grow.drew _ _;generalize w5.drew=Yx at*;go_wp2_with (go_at_call 47;refine HST.out.mono ?_;rintro e w6 ⟨rfl,q1,q2⟩);obtain⟨g5,F5,M5,_⟩:=H5.out;obtain⟨hL,hs,hn,hcn,hmd,qo,aN,htl,hx⟩:=tN.out;have KG:=yB.out.2.2.2.2.2;have yj:=VH.out.trans q2;have F6:=F5.grow yj;have M6:=M5.grow yj;have g6:=g5.trans yj;have a2:=q1.bT 2 (v:=R A.ba 0) rfl;have a3:=F6.cell 3 (v:=zu ((aj (D.word 0):Int)+1)) rfl;have RQ:=U (AQ q1.drew (1+s) (aj (D.word 0)+1) (1+(s:Int)) ((aj (D.word 0):Int)+1) (by omega) (by omega) (by rw[q1.nw];omega) (by show eF.count+1<_;omega));have H6:=U (zA g6 (zA F6 M6));have HV5:Hid (∀ w7,aF A ((eF.put (D.place (D.aB+1)) (pack 1 0)).put (1+s) (aj (D.word 0)+1)) w7->w7.cell? (J A.V (5+s))=some (.pointer none)∧w7.frozen? (J A.V (5+s))=false):=by
  intro w7 r;have h:=r.bT (5+s) (dQ A _ hs);rw[show A.tp ((eF.put (D.place (D.aB+1)) (pack 1 0)).put (1+s) (aj (D.word 0)+1)) s=.pointer none by unfold az.tp;rw[show ((eF.put (D.place (D.aB+1)) (pack 1 0)).put (1+s) (aj (D.word 0)+1)).ai.getD s none=none by show eF.ai.getD s none=none;rw[yB.out.2.2.1];exact hn]] at h;exact⟨h,r.iE _⟩
 clear hL hs hn hcn hmd qo aN htl hx g5 F5 M5 yj F6 M6 g6 q1 q2 KG;refine wp_region_still_tail 10 (by kernel_rfl) (by kernel_rfl) ?_;simp only[jZ,j6,kg,kr]
 repeat still_step
 refine wpStill_nil ?_;change wpList _ _ _ _ _ w6.drew;have VI:Hid (Grow A.L w6 A.L w6.drew):=Grow.drew _ _;generalize w6.drew=Yy at*;go_wp2_with (go_at_call 47;refine RQ.out.mono ?_;rintro e w7 ⟨rfl,q1,q2⟩;obtain⟨m5,z5⟩:=HV5.out w7 q1;have H7:=U (zA q1 q2);clear q1 q2);obtain⟨g6,F6,M6⟩:=H6.out;obtain⟨q1,q2⟩:=H7.out;obtain⟨_,_,_,Fv,hbL,hle⟩:=H4.out;obtain⟨hL,hs,hn,hcn,hmd,qo,aN,htl,hx⟩:=tN.out;obtain⟨-,p4,KF,IX,Ov,KG⟩:=yB.out;have Oy:=VI.out.trans q2;have F7:=F6.grow Oy;have M7:=M6.grow Oy;have g7:=g6.trans Oy;have Tz:((eF.put (D.place (D.aB+1)) (pack 1 0)).put (1+s) (aj (D.word 0)+1)).ai.getD s none=none:=by show eF.ai.getD s none=none;rw[KF];exact hn
 have hblk:w7.heap[w2.heap.size+1]? =some (.cells (fw (A.gJ s (w2.heap.size+1) w2.heap.size) s (gB (D.aB+1) ax (aj (D.word 0)+1))).toArray 131):=by
  rw[show (fw (A.gJ s (w2.heap.size+1) w2.heap.size) s (gB (D.aB+1) ax (aj (D.word 0)+1))).toArray=#[I ((D.aB:Int)+1),I ax,I s,zu ((aj (D.word 0):Int)+1),zu 0,I 0,.slice none 0 0,.map (some w2.heap.size),.slice none 0 0,.slice none 0 0,.int .u32 0,.int .i32 0,.int .u32 0,.bool false] by simp[fw,az.gJ,lq,ji,gB]];exact F7.2
 obtain⟨rA,gA⟩:=q1.CG g7 F7.1 M7.1 hs (by omega) hle (by omega) (gB (D.aB+1) ax (aj (D.word 0)+1)) rfl rfl rfl rfl hblk M7.2 Tz;obtain⟨A8,qp⟩:∃ A8:az,A8=A.gJ s (w2.heap.size+1) w2.heap.size:=⟨_,rfl⟩
 rw[<-qp] at rA gA;have e8:A8.V=A.V:=by rw[qp];rfl
 have QS:A8.bt s=w2.heap.size+1:=by rw[qp];exact aW rfl
 have vC:(((eF.put (D.place (D.aB+1)) (pack 1 0)).put (1+s) (aj (D.word 0)+1)).bM s (gB (D.aB+1) ax (aj (D.word 0)+1))).ai.getD s none=some (gB (D.aB+1) ax (aj (D.word 0)+1)):=by rw[dB (by show s<eF.ai.length;rw[KF,hL.rep.n8];exact hs),aW rfl]
 generalize hw8:World.setCell w7 _ _=w8 at*;have c0:=rA.fI vC 0 (v:=I ((D.aB:Int)+1)) rfl;have c3:=rA.fI vC 3 (v:=zu ((aj (D.word 0):Int)+1)) rfl;rw[QS] at c0 c3;have hev:=mU rA.drew s {kind:=1,t:=D.aB+1,n:=aj (D.word 0)+1,op:=⟨0,0,0,ax⟩} 1 ((D.aB:Int)+1) ((aj (D.word 0):Int)+1) 0 0 0 ax 0 0 0 0 none 0 0 rfl (lC.nil _ _) (by show eF.aQ.length<_;rw[Ov];exact htl);rw[e8] at hev;have HE:=U hev;have H8:Hid (∀ A9 w9,aF A9 ((((eF.put (D.place (D.aB+1)) (pack 1 0)).put (1+s) (aj (D.word 0)+1)).bM s (gB (D.aB+1) ax (aj (D.word 0)+1))).event {kind:=1,t:=D.aB+1,n:=aj (D.word 0)+1,op:=⟨0,0,0,ax⟩}) w9->bU A8 A9 s->w9.cell? ⟨w2.heap.size+1,0,none⟩=zt ((D.aB:Int)+1)):=by
  intro A9 w9 r st;have h:=r.fI (show ((((eF.put (D.place (D.aB+1)) (pack 1 0)).put (1+s) (aj (D.word 0)+1)).bM s (gB (D.aB+1) ax (aj (D.word 0)+1))).event {kind:=1,t:=D.aB+1,n:=aj (D.word 0)+1,op:=⟨0,0,0,ax⟩}).ai.getD s none=some (gB (D.aB+1) ax (aj (D.word 0)+1)) from vC) 0 (v:=I ((D.aB:Int)+1)) rfl;rw[st.bt,QS] at h;exact h
 have VJ:=U (zA qp (zA gA (zA IX vC)));clear hL hs hn hcn hmd qo aN htl hx g6 F6 M6 Oy F7 M7 g7 q1 q2 Fv hbL hle p4 KF IX Ov KG Tz hblk rA gA qp e8 QS vC hw8 hev m5 z5;refine wp_region_still_tail 12 (by kernel_rfl) (by kernel_rfl) ?_;simp only[jZ,j6,kg,kr]
 repeat still_step
 refine wpStill_nil ?_;change wpList _ _ _ _ _ w8.drew;have VK:Hid (∀ L,Grow L w8 L w8.drew):=fun L=>Grow.drew _ _
 generalize w8.drew=Yz at*;go_wp2_with (go_at_call 50;refine HE.out.mono ?_;rintro e w9 ⟨rfl,A9,p1,p2,p3,p4,p5⟩;have t0:=H8.out A9 w9 p1 p3;have HP:=U (zA p1 (zA p2 p3));clear p1 p2 p3 p4 p5)
 go_ret2
 obtain⟨p1,p2,p3⟩:=HP.out;obtain⟨qp,gA,IX,vC⟩:=VJ.out;obtain⟨hL,hs,hn,hcn,_⟩:=tN.out;have gg:=(gA.trans (VK.out _)).trans p2;have hcl:∀ q,((((eF.put (D.place (D.aB+1)) (pack 1 0)).put (1+s) (aj (D.word 0)+1)).bM s (gB (D.aB+1) ax (aj (D.word 0)+1))).event {kind:=1,t:=D.aB+1,n:=aj (D.word 0)+1,op:=⟨0,0,0,ax⟩}).calls.getD q none=D.calls.getD q none:=fun q=>by show eF.calls.getD q none=_;rw[IX]
 rw[yB.out.1.symm] at p1 ⊢;refine⟨A9,rfl,Live.of (s:=s) hL ⟨(kQ ({D.tick.dw (D.word 0) with aB:=D.aB+1}:St) 0 (D.word 0) (aV (aj (D.word 0)+1) 0)).1.trans (vJ D.tick (D.word 0)).1,(kQ ({D.tick.dw (D.word 0) with aB:=D.aB+1}:St) 0 (D.word 0) (aV (aj (D.word 0)+1) 0)).2.trans (vJ D.tick (D.word 0)).2⟩ p1 gg ⟨p3.bf.trans (by rw[qp];rfl),p3.mp.trans (by rw[qp];rfl),p3.mt.trans (by rw[qp];funext k;show (if k=s then 0 else A.mt k)=A.mt k;by_cases Y:k=s;rw[aW Y,hL.mt k];rw[bu Y]),fun q hq=>by rw[p3.bt,qp];exact bu hq,fun q _=>by rw[p3.bc,qp];rfl,fun q hq=>(p3.bx q hq).trans (by rw[qp];rfl),fun q hq=>(p3.aX q hq).trans (by rw[qp];rfl),fun q _=>by rw[p3.bE,qp];rfl,fun q _=>by rw[p3.bH,qp];rfl⟩ (fun q hq=>?_) (fun c' hcc=>?_) (fun _=>?_),gg,p3.V.trans (by rw[qp];rfl)⟩
 . rw[yB.out.1];exact hcl q
 . rw[yB.out.1,hcl s,hcn] at hcc;cases hcc
 . rw[p3.bH,qp];exact hL.idle s hs hcn
end Go.Proofs.YthicolbbmjfkfaaGreat.Em
