import Derived.Test.YthicolbbmjfkfaaGreatQn4
set_option linter.unusedVariables false
set_option linter.unusedSimpArgs false
set_option maxRecDepth 100000
set_option maxHeartbeats 1600000
namespace Go.Proofs.YthicolbbmjfkfaaGreat.Em
open Go.ChangeShapes Go.WideShapes Go.ChangeAt Go.RowKit En
theorem kZ {w:World} {e:TypeId} {n size:Nat} {v:Value} {xs:List Value} (h:w.ownsRow 0 e size v n xs) {j:Nat} {u:Value} (hj:xs[j]? =some u):∃ g cap,v=.slice (some (J g 0)) n cap∧w.cell? (J g j)=some u:=by
 have hc:=fun g hg=>h.cells (g:=g) hg
 rcases h.2 with ⟨rfl,h0⟩|⟨g,cap,cur,rfl,hb,hg,hnc,hcm,hcs,htake⟩
 . have h1:=h.1
   rw[h0] at h1;have:xs=[]:=by simpa using h1
   rw[this] at hj;simp at hj
 . refine⟨g,cap,rfl,?_⟩
   have:=hc g rfl j u hj;have hadd:((J g 0):Addr).add j=(J g j):=by unfold Addr.add;split<;>simp_all
   rw[hadd] at this;exact this
theorem Fw (l:List (Nat×Nat×Bool)) (i:Nat) (h:i<l.length):(jW l)[3*i]? =some (i64 (l.getD i (0,0,false)).1)∧(jW l)[3*i+1]? =some (u64 (l.getD i (0,0,false)).2.1)∧(jW l)[3*i+2]? =some (.bool (l.getD i (0,0,false)).2.2):=by
 induction l generalizing i with
 |nil=>simp at h
 |cons x l ih=>
  cases i with
  |zero=>simp[jW]
  |succ i=>
   have:=ih i (by simpa using h);simp only[jW,List.flatMap_cons] at this ⊢;have e:∀ k,([i64 x.1,u64 x.2.1,.bool x.2.2]++List.flatMap (fun r=>[i64 r.1,u64 r.2.1,.bool r.2.2]) l)[3*(i+1)+k]? =(List.flatMap (fun r=>[i64 r.1,u64 r.2.1,.bool r.2.2]) l)[3*i+k]? :=by
    intro k;rw[Qx (by simp;omega)]
    congr 1
    simp;omega
   have e0:=e 0;simp only[Nat.add_zero] at e0;rw[e0,e 1,e 2];exact this
theorem Fx (t:bL) (i:Nat) (h:i<t.reads.length) (hn:t.needs (t.reads.getD i (0,0,false))=false):dG t i=dG t (i+1):=by
 unfold dG;have e:t.reads.length - i=(t.reads.length - (i+1))+1:=by omega
 have k:t.need (t.reads.length - i) i=t.need (t.reads.length - (i+1)) (i+1):=by
  rw[e];show (if i<t.reads.length∧t.needs (t.reads.getD i (0,0,false))=false then _ else _)=_;rw[aV ⟨h,hn⟩]
 rw[k]
theorem zO (t:bL) (n i:Nat) (h:¬ (i<t.reads.length∧t.needs (t.reads.getD i (0,0,false))=false)):t.need n i=i:=by
 cases n with
 |zero=>rfl
 |succ n=>
  show (if i<t.reads.length∧t.needs (t.reads.getD i (0,0,false))=false then _ else _)=_;rw[aR h]
theorem Jg (t:bL):dG t t.reads.length=jJ t 0:=by
 unfold dG;rw[zO _ _ _ (by omega),aV rfl]
theorem Fy (t:bL) (i:Nat) (h:i<t.reads.length) (hn:t.needs (t.reads.getD i (0,0,false))=true):dG t i=.start ⟨(t.reads.getD i (0,0,false)).1,t.aA,.judge i (t.reads.getD i (0,0,false)).2.1⟩:=by
 unfold dG;rw[zO _ _ _ (fun h=>by rw[hn] at h;exact absurd h.2 (by simp)),aR (by omega)]
theorem zP {A:au} {D:St} {w:World} (hR:aC A D w) (s:Nat) (t:bL) (ht:D.aj.getD s none=some t) (i0:Nat) (hi0:i0<=t.reads.length) (hrl:t.reads.length<1000000):
 zk 122 #[R A.H 0,R (A.bt s) 0,R (A.bc s) 0,I i0] w (bE A w s (D,dG t i0)):=by
 obtain⟨r4,g4,f0,f1,f2,f3⟩:=jA hR #[R A.H 0] 32 #[R (A.bt s) 0] 100 #[R (A.bc s) 0] 105 #[I i0] 3;have HR:=zH (zA r4 (zA g4 (zA f0 (zA f1 (zA f2 f3)))));have HT:=zH (zA ht (zA hi0 hrl));have HW:=zH hR;have aU:=hR.mem.all (.reads s);rw[mem_reads ht] at aU;obtain⟨av,jc,hv,_⟩:=Ow.bN aU.1;have HV:=zH hv;clear hR ht hi0 hrl r4 g4 f0 f1 f2 f3 aU hv;go_enter Tryz.func122,Tryz.ntmps122;go_wp2_with fail
 go_loopw [10] (fun _ wr=>∃ i:Nat,i<=t.reads.length∧dG t i0=dG t i∧aC A D wr∧Grow A.L w A.L wr∧Fix A.L wr w.heap.size (.cells #[R A.H 0] 32)∧Fix A.L wr (w.heap.size+1) (.cells #[R (A.bt s) 0] 100)∧Fix A.L wr (w.heap.size+1+1) (.cells #[R (A.bc s) 0] 105)∧Fix A.L wr (w.heap.size+1+1+1) (.cells #[I i] 3)) (fun _ wr=>match wr.cell? ⟨w.heap.size+1+1+1,0,none⟩ with|some (.int _ i)=>((t.reads.length:Int) - i).toNat|_=>0)
 case atStart=>
  obtain⟨r4,g4,f0,f1,f2,f3⟩:=HR.out;exact⟨i0,HT.out.2.1,rfl,r4,g4,f0,f1,f2,f3⟩
 case round=>
  obtain⟨i,hi,hj,r,g,f0,f1,f2,f3⟩:=hrel;have c0:=f0.cell 0 (v:=R A.H 0) rfl;have c1:=f1.cell 0 (v:=R (A.bt s) 0) rfl;have c2:=f2.cell 0 (v:=R (A.bc s) 0) rfl;have c3:=f3.cell 0 (v:=I i) rfl;have t8:=r.fw HT.out.1 8 (v:=A.fG s) rfl;have hbase:(wr.cell? ⟨w.heap.size+1+1+1,0,none⟩)=zt i:=c3;rw[HV.out] at t8
  by_cases hlt:i<t.reads.length
  . have aU:=r.mem.all (.reads s)
    rw[mem_reads HT.out.1] at aU;obtain⟨e0,e1,e2⟩:=Fw t.reads i hlt;obtain⟨g0,cap0,hv0,k0⟩:=kZ aU.1 e0;obtain⟨g1,xc,hv1,k1⟩:=kZ aU.1 e1;obtain⟨g2,cap2,hv2,k2⟩:=kZ aU.1 e2;rw[hv0] at hv1 hv2;obtain rfl:g0=g1:=by simp at hv1;exact hv1.1
    obtain rfl:g0=g2:=by simp at hv2;exact hv2.1
    rw[HV.out] at hv0;obtain⟨rfl,rfl⟩:av=za g0 0∧jc=cap0:=by simpa using hv0
    have HK:Hid (∀ E,aC A D E->Grow A.L wr A.L E->E.cell? ⟨w.heap.size+1,0,none⟩=zs (A.bt s) 0∧E.cell? ⟨w.heap.size+1+1+1,0,none⟩=zt i∧E.cell? (J (A.bt s) 8)=some (.slice (some (J g0 0)) t.reads.length jc)∧E.cell? ⟨g0,3*i,none⟩=some (I ((t.reads.getD i (0,0,false)).1:Int))∧E.cell? ⟨g0,3*i+1,none⟩=some (zu ((t.reads.getD i (0,0,false)).2.1:Int))∧E.cell? ⟨g0,3*i+2,none⟩=some (.bool (t.reads.getD i (0,0,false)).2.2)):=by
     intro E r' g';have hown':=r'.mem.all (.reads s);rw[mem_reads HT.out.1] at hown';obtain⟨_,_,QR,SK⟩:=kZ hown'.1 e0;obtain⟨_,_,QS,k1'⟩:=kZ hown'.1 e1;obtain⟨_,_,QT,k2'⟩:=kZ hown'.1 e2;rw[HV.out] at QR QS QT;simp at QR QS QT;rw[<-QR.1] at SK;rw[<-QS.1] at k1';rw[<-QT.1] at k2';have XW:=r'.fw HT.out.1 8 (v:=A.fG s) rfl;rw[HV.out] at XW;exact⟨(f1.grow g').cell 0 rfl,(f3.grow g').cell 0 rfl,XW,SK,k1',k2'⟩
    have HN:=zH (fun E (q:aC A D E)=>I9 q s t HT.out.1 (t.reads.getD i (0,0,false)).1 (t.reads.getD i (0,0,false)).2.1 (t.reads.getD i (0,0,false)).2.2);have HS:Hid (t.needs (t.reads.getD i (0,0,false))=false->dG t i=dG t (i+1)):=Fx t i hlt;have Vk:Hid (t.needs (t.reads.getD i (0,0,false))=true->dG t i=.start ⟨(t.reads.getD i (0,0,false)).1,t.aA,.judge i (t.reads.getD i (0,0,false)).2.1⟩):=Fy t i hlt;have HQ:=zH (zA hj (zA r (zA g (zA hlt (zA f0 (zA f1 (zA f2 f3)))))));have nT:Hid (aC A D wr.drew):=r.drew;have HG:Hid (Grow A.L wr A.L wr.drew):=Grow.drew _ _;have b1:decide ((i:Int)<(t.reads.length:Int))=true:=by simpa using hlt
    have b2:decide (i<t.reads.length)=true:=by simpa using hlt
    have b3:((i:Int)<(t.reads.length:Int))=True:=by simpa using hlt
    have n1:IntKind.i64.wrap ((i:Int)+1)=(i:Int)+1:=by rw[jG];have:=HT.out.2.2;omega
    rw[Nat.mul_comm 3] at k0 k1 k2 HK;clear hj r g hi f0 f1 f2 f3 aU e0 e1 e2 hv0 hv1 hv2;generalize hnb:t.needs (t.reads.getD i (0,0,false))=nb at*;generalize (t.reads.getD i (0,0,false)).1=F at*;generalize (t.reads.getD i (0,0,false)).2.1=G at*;generalize (t.reads.getD i (0,0,false)).2.2=got at*;clear hnb
    cases nb with
    |false=>
     clear Vk;go_wp2_with fail
     go_region_held3 (fun E=>E.cell? ⟨w.heap.size+1,0,none⟩=zs (A.bt s) 0∧E.cell? ⟨w.heap.size+1+1+1,0,none⟩=zt i∧E.cell? (J (A.bt s) 8)=some (.slice (some (J g0 0)) t.reads.length jc)∧E.cell? ⟨g0,i*3,none⟩=zt F∧E.cell? ⟨g0,i*3+1,none⟩=zv G∧E.cell? ⟨g0,i*3+2,none⟩=zb got)
      (first|exact⟨c1,c3,t8,k0,k1,k2⟩|assumption|exact HK.out _ (by assumption) (by assumption))
      (first|(go_at_call 143;refine (HN.out _ nT.out).mono ?_;rintro e Y ⟨rfl,hb⟩;have q1:=nT.out.below hb;have q2:=HG.out.trans (Grow.below (L:=A.L) hb)))
     obtain⟨hj,r,g,hlt,f0,f1,f2,f3⟩:=HQ.out;have F3:=f3.grow q2;have y3:=F3.cell 0 (v:=I i) rfl;have z3:=F3.frozen 0;obtain⟨r5,g5⟩:=HW.out.ou q1 (g.trans q2) rfl rfl (a:=⟨w.heap.size+1+1+1,0,none⟩) (by simp;omega) F3.1 (I ((i:Int)+1));have F0:=(f0.grow q2).setOther (a:=⟨w.heap.size+1+1+1,0,none⟩) (by simp<;>omega) (I ((i:Int)+1));have F1:=(f1.grow q2).setOther (a:=⟨w.heap.size+1+1+1,0,none⟩) (by simp<;>omega) (I ((i:Int)+1));have F2:=(f2.grow q2).setOther (a:=⟨w.heap.size+1+1+1,0,none⟩) (by simp<;>omega) (I ((i:Int)+1));have HZ:=zH (zA r5 (zA g5 (zA F0 (zA F1 (zA F2 (F3.wF (I ((i:Int)+1))))))));have HB:=zH hbase;clear hj r g hlt f0 f1 f2 f3 F3 r5 g5 F0 F1 F2 hbase;go_wp2_with fail
     go_roundw
     case rel=>
      obtain⟨r5,g5,F0,F1,F2,F3⟩:=HZ.out;exact⟨i+1,by have:=HQ.out.2.2.2.1;omega,HQ.out.1.trans (HS.out trivial),r5,g5,F0,F1,F2,F3⟩
     case measure=>
      rw[HB.out,(HZ.out.2.2.2.2.2).cell 0 (v:=I ((i:Int)+1)) rfl];have:=HQ.out.2.2.2.1;simp;omega
    |true=>
     clear HS;go_wp2_with fail
     go_region_held3 (fun E=>E.cell? ⟨w.heap.size+1,0,none⟩=zs (A.bt s) 0∧E.cell? ⟨w.heap.size+1+1+1,0,none⟩=zt i∧E.cell? (J (A.bt s) 8)=some (.slice (some (J g0 0)) t.reads.length jc)∧E.cell? ⟨g0,i*3,none⟩=zt F∧E.cell? ⟨g0,i*3+1,none⟩=zv G∧E.cell? ⟨g0,i*3+2,none⟩=zb got)
      (first|exact⟨c1,c3,t8,k0,k1,k2⟩|assumption|exact HK.out _ (by assumption) (by assumption))
      (first|(go_at_call 143;refine (HN.out _ nT.out).mono ?_;rintro e Y ⟨rfl,hb⟩;have q1:=nT.out.below hb;have q2:=HG.out.trans (Grow.below (L:=A.L) hb)))
     obtain⟨hj,r,g,hlt,f0,f1,f2,f3⟩:=HQ.out;have HX:Hid (∀ n w5,Y.drewN n=w5->aC A D w5∧Grow A.L w A.L w5∧Grow A.L wr A.L w5∧w5.cell? ⟨w.heap.size+1,0,none⟩=zs (A.bt s) 0∧w5.cell? ⟨w.heap.size+1+1+1,0,none⟩=zt i∧w5.cell? (J (A.bt s) 8)=some (.slice (some (J g0 0)) t.reads.length jc)∧w5.cell? ⟨g0,i*3,none⟩=zt F∧w5.cell? ⟨g0,i*3+1,none⟩=zv G∧w5.cell? ⟨g0,i*3+2,none⟩=zb got):=by
      rintro n w5 rfl;obtain⟨x1,x2,x3,x4,x5,x6⟩:=HK.out _ (q1.drewN n) (q2.trans (Grow.drewN _ _ n));exact⟨q1.drewN n,(g.trans q2).trans (Grow.drewN _ _ n),q2.trans (Grow.drewN _ _ n),x1,x2,x3,x4,x5,x6⟩
     have d1:((i:Int)==(t.reads.length:Int))=false:=by simp;omega
     have d2:(i==t.reads.length)=false:=by simp;omega
     have d3:((i:Int)=(t.reads.length:Int))=False:=by simp;omega
     obtain⟨_,_,_,x1,x2,x3,_⟩:=HX.out 0 Y rfl;have HP:=zH (zA q1 q2);clear hj r g hlt f0 f1 f2 f3 q1 q2 c0 c1 c2 c3 t8 k0 k1 k2 hbase;go_wp2_with fail
     go_quiet (fail)
     generalize iZ:Y.drewN _=w5;obtain⟨r5,g5,VP,x1,x2,x3,x4,x5,x6⟩:=HX.out _ w5 iZ;obtain⟨y1,y2,y3,y4,y5,y6⟩:=HK.out (w5.alloc (.cells #[I 0,zu 0,.bool false] 250)) (r5.alloc _) (VP.trans (Grow.alloc _ _ _));have H5:=zH (zA r5 (zA g5 VP));clear r5 g5 VP iZ;go_wp2_with fail
     go_region
     generalize p8:(w5.alloc _).drew=w6;obtain⟨_,_,_,hlt,f0,f1,f2,f3⟩:=HQ.out;obtain⟨r7,g7,f4⟩:=dA H5.out.1 #[I F,zu G,.bool got] 250;have yR:Grow A.L w5 A.L w6:=by rw[<-p8];exact g7.trans (Grow.drew _ _)
     have r6:aC A D w6:=by rw[<-p8];exact r7.drew
     have F4:Fix A.L w6 w5.heap.size (.cells #[I F,zu G,.bool got] 250):=by rw[<-p8];exact f4.grow (Grow.drew _ _)
     have gq:=(H5.out.2.2).trans yR;have F0:=f0.grow gq;have F1:=f1.grow gq;have F2:=f2.grow gq;have F3:=f3.grow gq;have y0:=F0.cell 0 (v:=R A.H 0) rfl;have y1:=F1.cell 0 (v:=R (A.bt s) 0) rfl;have y4:=F4.cell 0 (v:=I F) rfl;have yt:=r6.fw HT.out.1 4 (v:=zu t.aA) rfl;have gd:=Grow.drew A.L w6;have hf:=tC r6.drew s F t.aA (.func (.func 145) #[] #[R w5.heap.size 0,R w.heap.size 0,.pointer (some ⟨w.heap.size+1,0,none⟩),.pointer (some ⟨w.heap.size+1+1,0,none⟩),.pointer (some ⟨w.heap.size+1+1+1,0,none⟩)]) (.judge i G) ⟨_,_,_,_,_,rfl,⟨_,_,_,F4.grow gd⟩,F0.box.grow gd,F1.box.grow gd,F2.box.grow gd,F3.box.grow gd⟩;have HE:=zH (zA hf ((H5.out.2.1.trans yR).trans gd));clear hlt f0 f1 f2 f3 r7 g7 f4 yR r6 F4 gq F0 F1 F2 F3 gd hf p8 x1 x2 x3 x4 x5 x6;go_wp2_with fail;refine wp_region_still_tail 9 (by kernel_rfl) (by kernel_rfl) ?_;simp only[jS,jT,jU,jV]
     repeat still_step
     refine wpStill_nil ?_;change wpList _ _ _ _ _ w6.drew;generalize w6.drew=wd at*;go_wp2_with (go_at_call 114;refine HE.out.1.mono ?_;rintro e w2 ⟨A2,v,rfl,p1,p2,p3,p4⟩);go_ret;rw[HQ.out.1,Vk.out trivial];exact⟨A2,v,rfl,p1,HE.out.2.trans p2,p3,p4⟩
  . obtain rfl:i=t.reads.length:=by omega
    have HQ:=zH (zA hj (zA r g));have HA:Hid (∀ E,aC A D E->zk 144 #[R A.H 0,R (A.bt s) 0,R (A.bc s) 0,I 0] E (bE A E s (D,jJ t 0))):=fun E q=>CO q s t HT.out.1 0
    have HJ:=zH (Jg t);clear hj r g hi hlt f0 f1 f2 f3;generalize t.reads.length=n at*;have d1:decide ((n:Int)<(n:Int))=false:=by simp
    go_wp2_with fail
    go_quiet (fail)
    generalize iZ:wr.drewN _=w5;have c0:w5.cell? (J w.heap.size 0)=zs A.H 0:=by rw[<-iZ];exact c0
    have c1:w5.cell? ⟨w.heap.size+1,0,none⟩=zs (A.bt s) 0:=by rw[<-iZ];exact c1
    have c2:w5.cell? ⟨w.heap.size+1+1,0,none⟩=zs (A.bc s) 0:=by rw[<-iZ];exact c2
    have c3:w5.cell? ⟨w.heap.size+1+1+1,0,none⟩=zt n:=by rw[<-iZ];exact c3
    have t8:w5.cell? (J (A.bt s) 8)=some (.slice av n jc):=by rw[<-iZ];exact t8
    have r5:aC A D w5:=by rw[<-iZ];exact HQ.out.2.1.drewN _
    have g5:Grow A.L w A.L w5:=by rw[<-iZ];exact HQ.out.2.2.trans (Grow.drewN _ _ _)
    have H5:=zH (zA r5 g5);clear r5 g5 iZ;go_wp2_with fail
    go_quiet (fail)
    go_wp2_with (go_at_call 144;refine (HA.out _ (H5.out.1.drewN _)).mono ?_;rintro e w2 ⟨A2,v,rfl,p1,p2,p3,p4⟩);go_ret;rw[HQ.out.1,HJ.out];exact⟨A2,v,rfl,p1,(H5.out.2.trans (Grow.drewN _ _ _)).trans p2,p3,p4⟩
theorem uG (w:World) (l:List Nat) (v:Value) (x:Nat) (ho:w.ownsRow 0 3 1 v l.length (l.map i64)) (hl:l.length<1000000):
 zk 234 #[v,I x] w fun e E=>(∃ r:Int,e=.returned (I r)∧(0<=r↔x∈l))∧w=E:=by
 obtain⟨av,jc,hv,_⟩:=Ow.bN ho;have hat:∀ k (Z:k<l.length),∃ g,av=za g 0∧zT w g k (l[k]:Int):=by
  intro k Z;obtain⟨g,cap,e,hc⟩:=kZ ho (j:=k) (u:=I (l[k]:Int)) (by simp[Z]);rw[hv] at e;simp only[Value.slice.injEq] at e;exact⟨g,e.1,hc⟩
 subst hv;have HAT:=zH hat;have XX:=zH hl;clear hat ho hl;go_enter Tryz.func234,Tryz.ntmps234;go_wp2
 go_loop [8] (fun i=>∃ k:Nat,k<=l.length∧i=I k∧x ∉ l.take k) (fun i=>l.length - (intOf i).toNat)
 case atStart=>exact⟨0,zz _,rfl,by simp⟩
 case round=>
  obtain⟨k,Z,rfl,hnot⟩:=hrel
  by_cases hlt:k<l.length
  . obtain⟨g,rfl,hc⟩:=HAT.out k hlt
    have ht:l.take (k+1)=l.take k++[l[k]]:=by rw[List.take_succ_eq_append_getElem hlt]
    have hmem:l[k]∈l:=List.getElem_mem hlt;have HT:=zH (zA ht (zA hnot hmem));have b1:(k:Int)<(l.length:Int):=by omega
    have b0:(0:Int)<=(k:Int):=by omega
    have n1:IntKind.i64.wrap ((k:Int)+1)=(k:Int)+1:=by have:=XX.out;rw[jG];omega
    have XY:=zH hlt;clear ht hnot Z hmem;generalize l[k]=y at*
    by_cases hy:x=y
    . have HY:=zH hy
      obtain⟨fa1,fa2,fa3,fa4,fa5⟩:=uA (x:=x) (c:=y) (ci:=(y:Int)) (by omega);clear hy;go_wp2;go_ret;exact⟨⟨_,rfl,by constructor<;>intro _<;>first|(rw[HY.out];exact HT.out.2.2)|omega⟩,rfl⟩
    . have HY:=zH hy
      obtain⟨fa1,fa2,fa3,fa4,fa5⟩:=rf (x:=x) (c:=y) (ci:=(y:Int)) (by omega);clear hy;go_wp2
      go_round
      case rel=>exact⟨k+1,XY.out,by first|rfl|go_num,by rw[HT.out.1];intro h;rcases List.mem_append.1 h with h|h;exact HT.out.2.1 h;exact HY.out (List.mem_singleton.1 h)⟩
      case measure=>have:=XY.out;simp[intOf];omega
  . have hx:x ∉ l:=by rw[List.take_of_length_le (by omega)] at hnot;exact hnot
    have HX:=zH hx;obtain rfl:k=l.length:=by omega
    clear hlt hnot Z hx;go_wp2;go_ret;exact⟨⟨_,rfl,by constructor;intro h;exact absurd h (by decide);intro h;exact absurd h HX.out⟩,rfl⟩
theorem Bg (w:World) (l:List Nat) (v:Value) (x:Nat) (ho:w.ownsRow 0 3 1 v l.length (l.map i64)) (hl:l.length<1000000):
 zk 233 #[v,I x] w fun e E=>e=.returned (.bool (decide (x∈l)))∧w=E:=by
 have HI:=zH (uG w l v x ho hl);clear ho hl;go_enter Tryz.func233,Tryz.ntmps233;go_wp2_with (go_at_call 234;refine HI.out.mono ?_;rintro e E ⟨⟨r,rfl,hr⟩,rfl⟩);go_ret;refine⟨?_,rfl⟩;have e:decide ((0:Int)<=r)=decide (x∈l):=by rw[decide_eq_decide];exact hr
 first|(rw[<-e];rfl)|(simp[hr];done)|(rw[show decide (r≥0)=decide (x∈l) from e])
theorem Does.QU {A:au} {w Y:World} {s:Nat} {aH aD:St} {v:Value} {e:Ending} {E:World} {A1:au} (g1:Grow A.L w A1.L Y) (s1:bT A A1 s) (b1:A1.bx=A.bx) (p1:A1.aY=A.aY) (h:Does A1 Y s aD v e E):Does A w s aD v e E:=
 let ⟨e1,A2,r,g,st,bx,vp⟩:=h;⟨e1,A2,r,g1.trans g,s1.trans st,bx.trans b1,vp.trans p1⟩
theorem De {A:au} {D:St} {w:World} (hR:aC A D w) (s:Nat) (t:bL) (ht:D.aj.getD s none=some t) (tq:Nat) (hto:tq<=65535) (hn:t.aP.length<1000000) (htl:D.aT.length<1000000):
 zk 224 #[R A.H 0,R (A.bt s) 0,I tq] w (Does A w s (D.bind s tq) (.tuple #[])):=by
 have c9:w.cell? (J (A.bt s) 9)=some (A.dY s):=hR.fw ht 9 rfl;have z9:=hR.wO ht 9;have hown0:=hR.mem.all (.aP s);rw[mV ht] at hown0;obtain⟨av,jc,hv,_⟩:=Ow.bN hown0.1;have HC:=zH (Bg w t.aP _ tq hown0.1 hn)
 by_cases hm:tq∈t.aP
 . have hst:D.bind s tq=D:=by unfold St.bind;rw[cK ht,aV hm]
   rw[hst];have hd:decide (tq∈t.aP)=true:=by simpa using hm
   rw[hd,hv] at HC;rw[hv] at c9;have HR:=zH hR;clear hR ht hn htl hm hst hd hown0 hto hv;generalize t.aP.length=n at*;go_enter Tryz.func224,Tryz.ntmps224;go_wp2_with (go_at_call 233;refine HC.out.mono ?_;rintro e E ⟨rfl,rfl⟩)
   go_end0
   exact⟨rfl,A,HR.out,Grow.refl _ _,bT.refl _ _,rfl,rfl⟩
 . have hd:decide (tq∈t.aP)=false:=by simpa using hm
   rw[hd,hv] at HC;have hst:D.bind s tq=(D.bK s {t with aP:=t.aP++[tq]}).event {kind:=4,t:=t.id,n:=tq}:=by unfold St.bind;rw[cK ht,aR hm]
   rw[hst];have hA:=hR.alloc (.cells #[I tq] 3);have aU:=hA.mem.all (.aP s);rw[mV ht] at aU;have ho:(w.alloc (.cells #[I tq] 3)).ownsRow 0 3 1 (A.dY s) t.aP.length (t.aP.map i64):=aU.1;have n1:IntKind.u64.wrap (tq:Int)=(tq:Int):=by rw[IntKind.wrap_u64];omega
   have FN : Hid (∀ v' w2, w2.ownsRow 0 3 1 v' (t.aP.length + 1) (t.aP.map i64 ++ [I (tq : Int)]) -> (w.alloc (.cells #[I (tq : Int)] 3)).grownBy w2 (A.dY s).ownBlock -> (v'.ownBlock = (A.dY s).ownBlock ∨ ∀ g, v'.ownBlock = some g -> (w.alloc (.cells #[I (tq : Int)] 3)).heap.size <= g) ->
       (w2.setCell (J (A.bt s) 9) v').cell? (J (A.bt s) 0)=zt t.id∧zk 50 #[R A.H 0,.agg #[I 4,I t.id,zu tq,I 0,I 0,I 0,I 0,I 0,I 0,.slice none 0 0,I 0,I 0]] (w2.setCell (J (A.bt s) 9) v') (Does A w s ((D.bK s {t with aP:=t.aP++[tq]}).event {kind:=4,t:=t.id,n:=tq}) (.tuple #[]))∧w2.cell? (J (A.bt s) 9)=some (A.dY s)∧w2.frozen? (J (A.bt s) 9)=false):=by
    intro v' w2 q1 q2 q3;obtain⟨k1,k2,k3,k4⟩:=hA.NB ht (t.aP++[tq]) v' q2 (by simpa using q1) q3;have ht2:(D.bK s {t with aP:=t.aP++[tq]}).aj.getD s none=some {t with aP:=t.aP++[tq]}:=by rw[dC (dB ht),aV rfl]
    refine⟨k1.fw ht2 0 rfl,?_,k3,k4⟩;have he:=mY k1 s {kind:=4,t:=t.id,n:=tq} 4 t.id tq 0 0 0 0 0 0 0 0 none 0 0 rfl (kW.nil _ _) htl;refine he.mono fun e E h=>?_
    exact Does.QU (aH:=D) ((Grow.alloc A.L w _).trans k2) ⟨rfl,rfl,rfl,rfl,rfl,rfl,rfl,rfl,rfl,rfl,rfl,fun _ _=>rfl,fun _ _=>rfl⟩ rfl rfl h
   rw[hv] at c9 ho FN;have HO:=zH ho;clear hR ht htl hm hst hd hown0 hto hv hA aU ho;generalize hn':t.aP.length=n at*;have HN:=zH hn;clear hn hn';obtain⟨ii,hii,hz0,hz1,hz2⟩:=info_parts CQ;go_enter Tryz.func224,Tryz.ntmps224;go_wp2_with (first|(go_at_call 233;refine HC.out.mono ?_;rintro e E ⟨rfl,rfl⟩)|(refine Ow.eu _ rfl (.tmp 17) (.tmp 19) 36 rfl 0 _ ii _ 1 8 Tryz.underlying36 hii hz0 hz1 hz2 rfl (by decide) (.slice av n jc) n (t.aP.map i64) rfl HO.out (J w.heap.size 0) 1 1 (by omega) [I tq] rfl rfl (by intro j' u hu;exact Ow.iw _ [I tq] _ _ rfl j' u hu) (by intro u hu;obtain rfl:=List.mem_singleton.1 hu;rfl) (by have:=HN.out;unfold maxLen;omega) (by have:=HN.out;omega) (zz _) ?_;intro v' w4 q1 q2 q3;obtain⟨k1,k2,k3,k4⟩:=FN.out v' w4 q1 q2 q3;obtain⟨a4,cap4,rfl,_⟩:=Ow.bN q1;have K1:=zH k2;clear k2 q1 q2 q3)|(go_at_call 50;refine K1.out.mono ?_;rintro e w2 hd2;obtain⟨rfl,hd3⟩:=id hd2))
   go_end0
   exact⟨rfl,hd3⟩
variable {A:au} {D:St} {w:World}
def iL (A:au) (D:St) (w:World) (k:Option S):Ending->World->Prop:=fun e E=>∃ v,e=.returned v∧aC A D E∧Grow A.L w A.L E∧jm A.H A.L E v k
theorem Fz (hR:aC A D w) (F:Nat) (ak:Nat) (G:Nat) (id:Nat):
 zk 180 #[R A.H 0,I F,zu ak,zu G,I id] w (iL A D w (some (.maker F ak G id))):=by
 have ae:=zH (jB hR #[R A.H 0] 32 #[I F] 3 #[zu ak] 25 #[zu G] 25 #[I id] 3);clear hR;go_enter Tryz.func180,Tryz.ntmps180;go_wp2;go_ret;obtain⟨r1,r2,f0,f1,f2,f3,f4⟩:=ae.out;exact⟨_,rfl,r1,r2,_,_,_,_,_,rfl,f0.box,f4.box,f1.box,f2.box,f3.box⟩
theorem Bh (hR:aC A D w) (F:Nat) (ak:Nat) (G:Nat) (b:Nat):
 zk 181 #[R A.H 0,I F,zu ak,zu G,zu b] w (iL A D w (some (.dD F ak G b))):=by
 have ae:=zH (jB hR #[R A.H 0] 32 #[I F] 3 #[zu ak] 25 #[zu G] 25 #[zu b] 25);clear hR;go_enter Tryz.func181,Tryz.ntmps181;go_wp2;go_ret;obtain⟨r1,r2,f0,f1,f2,f3,f4⟩:=ae.out;exact⟨_,rfl,r1,r2,_,_,_,_,_,rfl,f4.box,f0.box,f3.box,f1.box,f2.box⟩
theorem Ig (hR:aC A D w) (F:Nat) (G:Nat):
 zk 197 #[R A.H 0,I F,zu G] w (iL A D w (some (.on F G))):=by
 have ae:=zH (je hR #[R A.H 0] 32 #[I F] 3 #[zu G] 25);clear hR;go_enter Tryz.func197,Tryz.ntmps197;go_wp2;go_ret;obtain⟨r1,r2,f0,f1,f2⟩:=ae.out;exact⟨_,rfl,r1,r2,_,_,_,rfl,f0.box,f1.box,f2.box⟩
theorem vG (hR:aC A D w) (F:Nat) (ak:Nat) (G:Nat):
 zk 196 #[R A.H 0,I F,zu ak,zu G] w (iL A D w (some (.unlink F ak G))):=by
 have ae:=zH (jA hR #[R A.H 0] 32 #[I F] 3 #[zu ak] 25 #[zu G] 25);clear hR;go_enter Tryz.func196,Tryz.ntmps196;go_wp2;go_ret;obtain⟨r1,r2,f0,f1,f2,f3⟩:=ae.out;exact⟨_,rfl,r1,r2,_,_,_,_,rfl,f0.box,f3.box,f1.box,f2.box⟩
theorem La (hR:aC A D w) (F:Nat) (ak:Nat) (G:Nat) (nx:Nat):
 zk 208 #[R A.H 0,I F,zu ak,zu G,zu nx] w (iL A D w (some (.cut F ak G nx))):=by
 have ae:=zH (jB hR #[R A.H 0] 32 #[I F] 3 #[zu ak] 25 #[zu G] 25 #[zu nx] 25);clear hR;go_enter Tryz.func208,Tryz.ntmps208;go_wp2;go_ret;obtain⟨r1,r2,f0,f1,f2,f3,f4⟩:=ae.out;exact⟨_,rfl,r1,r2,_,_,_,_,_,rfl,f2.box,f0.box,f4.box,f1.box,f3.box⟩
theorem uH (hR:aC A D w) (F:Nat) (Z:F<=64):
 zk 135 #[R A.H 0,I F] w (iL A D w (mI F)):=by
 have ae:=zH (jy hR #[R A.H 0] 32 #[I F] 3);clear hR;unfold mI
 by_cases h63:63<F
 . have h1:((63:Int)<(F:Int))=True:=by simp;omega
   have h2:decide ((63:Int)<(F:Int))=true:=by simp;omega
   rw[aV h63];go_enter Tryz.func135,Tryz.ntmps135;go_wp2;go_ret;obtain⟨r1,r2,f0,f1⟩:=ae.out;exact⟨_,rfl,r1,r2,rfl⟩
 . have h1:((63:Int)<(F:Int))=False:=by simp;omega
   have h2:decide ((63:Int)<(F:Int))=false:=by simp;omega
   rw[aR h63];go_enter Tryz.func135,Tryz.ntmps135;go_wp2;go_ret;obtain⟨r1,r2,f0,f1⟩:=ae.out;exact⟨_,rfl,r1,r2,_,_,rfl,f0.box,f1.box⟩
theorem zQ (hR:aC A D w) (s:Nat) (hs:s<=8):
 zk 101 #[R A.H 0,I s] w (iL A D w (nL s)):=by
 have ae:=zH (jy hR #[R A.H 0] 32 #[I s] 3);have HH:=zH (uH (ae.out.1) 0 (by decide));clear hR;unfold nL
 by_cases h8:s=8
 . have h1:((s:Int)=8)=True:=by simp;omega
   have h2:((s:Int)==8)=true:=by simp;omega
   rw[aV h8];clear h8;go_enter Tryz.func101,Tryz.ntmps101;go_wp2_with (go_at_call 135;refine HH.out.mono ?_;rintro e w9 ⟨v,rfl,q1,q2,q3⟩;have HQ:=zH (zA q1 (zA q2 q3));clear q1 q2 q3);go_ret;exact⟨_,rfl,HQ.out.1,ae.out.2.1.trans HQ.out.2.1,HQ.out.2.2⟩
 . have h1:((s:Int)=8)=False:=by simp;omega
   have h2:((s:Int)==8)=false:=by simp;omega
   rw[aR h8];clear h8;go_enter Tryz.func101,Tryz.ntmps101;go_wp2;go_ret;obtain⟨r1,r2,f0,f1⟩:=ae.out;exact⟨_,rfl,r1,r2,_,_,rfl,f0.box,f1.box⟩
theorem pF (hR:aC A D w) (F ak G:Nat) (Z:F<=63):
 zk 160 #[R A.H 0,I F,zu ak,zu G] w (iL A D w (iG F ak G)):=by
 have ae:=zH (jA hR #[R A.H 0] 32 #[I F] 3 #[zu ak] 25 #[zu G] 25);have HH:=zH (uH (ae.out.1) (F+1) (by omega));have n1:IntKind.i64.wrap ((F:Int)+1)=((F+1:Nat):Int):=by rw[jG];omega
 clear hR;unfold iG
 by_cases h8:G=0
 . have h1:((G:Int)=0)=True:=by simp;omega
   have h2:((G:Int)==0)=true:=by simp;omega
   rw[aV h8];clear h8;generalize ((F+1:Nat):Int)=k1 at*;go_enter Tryz.func160,Tryz.ntmps160;go_wp2_with (go_at_call 135;refine HH.out.mono ?_;rintro e w9 ⟨v,rfl,q1,q2,q3⟩;have HQ:=zH (zA q1 (zA q2 q3));clear q1 q2 q3);go_ret;exact⟨_,rfl,HQ.out.1,ae.out.2.1.trans HQ.out.2.1,HQ.out.2.2⟩
 . have h1:((G:Int)=0)=False:=by simp;omega
   have h2:((G:Int)==0)=false:=by simp;omega
   rw[aR h8];clear h8;go_enter Tryz.func160,Tryz.ntmps160;go_wp2;go_ret;obtain⟨r1,r2,f0,f1,f2,f3⟩:=ae.out;exact⟨_,rfl,r1,r2,_,_,_,_,rfl,f0.box,f3.box,f1.box,f2.box⟩
end Go.Proofs.YthicolbbmjfkfaaGreat.Em
