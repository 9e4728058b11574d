import Derived.Test.YtmgghljjjpcgkaaGreatQz4
namespace Go.Proofs.YtmgghljjjpcgkaaGreat.Em
open Go.ChangeShapes Go.WideShapes Go.ChangeAt Go.RowKit En
set_option linter.unusedVariables false
set_option linter.unusedSimpArgs false
set_option maxRecDepth 100000
set_option maxHeartbeats 1600000
theorem own_at {w:World} {e:TypeId} {n size:Nat} {v:Value} {xs:List Value} (h:w.ownsRow 0 e size v n xs) {j:Nat} {u:Value} (hj:xs[j]? =some u):∃ g cap,v=.slice (some ⟨g,0,none⟩) n cap∧w.cell? ⟨g,j,none⟩=some u:=by
 have hc:=fun g hg=>h.cells (g:=g) hg
 rcases h.2 with ⟨rfl,h0⟩|⟨g,cap,cur,rfl,hb,hg,hnc,hcm,hcs,htake⟩
 · have h1:=h.1
   rw[h0] at h1;have:xs=[]:=by simpa using h1
   rw[this] at hj;simp at hj
 · refine⟨g,cap,rfl,?_⟩
   have:=hc g rfl j u hj;have hadd:(⟨g,0,none⟩:Addr).add j=⟨g,j,none⟩:=by unfold Addr.add;split<;>simp_all
   rw[hadd] at this;exact this
theorem readCs_get (l:List (Nat×Nat×Bool)) (i:Nat) (h:i<l.length):(readCs l)[3*i]? =some (i64 (l.getD i (0,0,false)).1)∧(readCs l)[3*i+1]? =some (u64 (l.getD i (0,0,false)).2.1)∧(readCs l)[3*i+2]? =some (.bool (l.getD i (0,0,false)).2.2):=by
 induction l generalizing i with
 |nil=>simp at h
 |cons x l ih=>
  cases i with
  |zero=>simp[readCs]
  |succ i=>
   have:=ih i (by simpa using h);simp only[readCs,List.flatMap_cons] at this ⊢;have e:∀ k,([i64 x.1,u64 x.2.1,.bool x.2.2]++List.flatMap (fun r=>[i64 r.1,u64 r.2.1,.bool r.2.2]) l)[3*(i+1)+k]? =(List.flatMap (fun r=>[i64 r.1,u64 r.2.1,.bool r.2.2]) l)[3*i+k]? :=by
    intro k;rw[List.getElem?_append_right (by simp;omega)]
    congr 1
    simp;omega
   have e0:=e 0;simp only[Nat.add_zero] at e0;rw[e0,e 1,e 2];exact this
theorem judge_step (t:Txn) (i:Nat) (h:i<t.reads.length) (hn:t.needs (t.reads.getD i (0,0,false))=false):judgeK t i=judgeK t (i+1):=by
 unfold judgeK;have e:t.reads.length - i=(t.reads.length - (i+1))+1:=by omega
 have k:t.need (t.reads.length - i) i=t.need (t.reads.length - (i+1)) (i+1):=by
  rw[e];show (if i<t.reads.length∧t.needs (t.reads.getD i (0,0,false))=false then _ else _)=_;rw[if_pos ⟨h,hn⟩]
 rw[k]
theorem need_stop (t:Txn) (n i:Nat) (h:¬ (i<t.reads.length∧t.needs (t.reads.getD i (0,0,false))=false)):t.need n i=i:=by
 cases n with
 |zero=>rfl
 |succ n=>
  show (if i<t.reads.length∧t.needs (t.reads.getD i (0,0,false))=false then _ else _)=_;rw[if_neg h]
theorem judge_end (t:Txn):judgeK t t.reads.length=waitK t 0:=by
 unfold judgeK;rw[need_stop _ _ _ (by omega),if_pos rfl]
theorem judge_find (t:Txn) (i:Nat) (h:i<t.reads.length) (hn:t.needs (t.reads.getD i (0,0,false))=true):judgeK t i=.start ⟨(t.reads.getD i (0,0,false)).1,t.end_,.judge i (t.reads.getD i (0,0,false)).2.1⟩:=by
 unfold judgeK;rw[need_stop _ _ _ (fun h=>by rw[hn] at h;exact absurd h.2 (by simp)),if_neg (by omega)]
theorem judge_any {A:Book} {σ:St} {w:World} (hR:Rep A σ w) (s:Nat) (t:Txn) (ht:σ.txns.getD s none=some t) (i0:Nat) (hi0:i0≤t.reads.length) (hrl:t.reads.length<1000000):
 Calls Tryz.prog 103 #[.pointer (some ⟨A.be,0,none⟩),.pointer (some ⟨A.bt s,0,none⟩),.pointer (some ⟨A.bc s,0,none⟩),zi (i0:Int)] w (Tells A w s (σ,judgeK t i0)):=by
 obtain⟨r4,g4,f0,f1,f2,f3⟩:=allocs4 hR #[.pointer (some ⟨A.be,0,none⟩)] 31 #[.pointer (some ⟨A.bt s,0,none⟩)] 86 #[.pointer (some ⟨A.bc s,0,none⟩)] 88 #[zi (i0:Int)] 3;have HR:=zH (zA r4 (zA g4 (zA f0 (zA f1 (zA f2 f3)))));have HT:=zH (zA ht (zA hi0 hrl));have HW:=zH hR;have hown:=hR.mem.all (.reads s);rw[mem_reads ht] at hown;obtain⟨av,capv,hv,_⟩:=Ow.own_form hown.1;have HV:=zH hv;clear hR ht hi0 hrl r4 g4 f0 f1 f2 f3 hown hv;go_enter Tryz.func103,Tryz.ntmps103;go_wp2_with fail
 go_loopw [10] (fun _ wr=>∃ i:Nat,i≤t.reads.length∧judgeK t i0=judgeK t i∧Rep A σ wr∧Grow A.L w A.L wr∧Fix A.L wr w.heap.size (.cells #[.pointer (some ⟨A.be,0,none⟩)] 31)∧Fix A.L wr (w.heap.size+1) (.cells #[.pointer (some ⟨A.bt s,0,none⟩)] 86)∧Fix A.L wr (w.heap.size+1+1) (.cells #[.pointer (some ⟨A.bc s,0,none⟩)] 88)∧Fix A.L wr (w.heap.size+1+1+1) (.cells #[zi (i:Int)] 3)) (fun _ wr=>match wr.cell? ⟨w.heap.size+1+1+1,0,none⟩ with|some (.int _ i)=>((t.reads.length:Int) - i).toNat|_=>0)
 case atStart=>
  obtain⟨r4,g4,f0,f1,f2,f3⟩:=HR.out;exact⟨i0,HT.out.2.1,rfl,r4,g4,f0,f1,f2,f3⟩
 case round=>
  obtain⟨i,hi,hj,r,g,f0,f1,f2,f3⟩:=hrel;have c0:=f0.cell 0 (v:=.pointer (some ⟨A.be,0,none⟩)) rfl;have c1:=f1.cell 0 (v:=.pointer (some ⟨A.bt s,0,none⟩)) rfl;have c2:=f2.cell 0 (v:=.pointer (some ⟨A.bc s,0,none⟩)) rfl;have c3:=f3.cell 0 (v:=zi (i:Int)) rfl;have t8:=r.txn HT.out.1 8 (v:=A.vreads s) rfl;have hbase:(wr.cell? ⟨w.heap.size+1+1+1,0,none⟩)=some (zi (i:Int)):=c3;rw[HV.out] at t8
  by_cases hlt:i<t.reads.length
  · have hown:=r.mem.all (.reads s)
    rw[mem_reads HT.out.1] at hown;obtain⟨e0,e1,e2⟩:=readCs_get t.reads i hlt;obtain⟨g0,cap0,hv0,k0⟩:=own_at hown.1 e0;obtain⟨g1,cap1,hv1,k1⟩:=own_at hown.1 e1;obtain⟨g2,cap2,hv2,k2⟩:=own_at hown.1 e2;rw[hv0] at hv1 hv2;obtain rfl:g0=g1:=by simp at hv1;exact hv1.1
    obtain rfl:g0=g2:=by simp at hv2;exact hv2.1
    rw[HV.out] at hv0;obtain⟨rfl,rfl⟩:av=some ⟨g0,0,none⟩∧capv=cap0:=by simpa using hv0
    have HK:Hid (∀ w',Rep A σ w'→Grow A.L wr A.L w'→w'.cell? ⟨w.heap.size+1,0,none⟩=some (.pointer (some ⟨A.bt s,0,none⟩))∧w'.cell? ⟨w.heap.size+1+1+1,0,none⟩=some (zi (i:Int))∧w'.cell? ⟨A.bt s,8,none⟩=some (.slice (some ⟨g0,0,none⟩) t.reads.length capv)∧w'.cell? ⟨g0,3*i,none⟩=some (zi ((t.reads.getD i (0,0,false)).1:Int))∧w'.cell? ⟨g0,3*i+1,none⟩=some (zu ((t.reads.getD i (0,0,false)).2.1:Int))∧w'.cell? ⟨g0,3*i+2,none⟩=some (.bool (t.reads.getD i (0,0,false)).2.2)):=by
     intro w' r' g';have hown':=r'.mem.all (.reads s);rw[mem_reads HT.out.1] at hown';obtain⟨_,_,hv0',k0'⟩:=own_at hown'.1 e0;obtain⟨_,_,hv1',k1'⟩:=own_at hown'.1 e1;obtain⟨_,_,hv2',k2'⟩:=own_at hown'.1 e2;rw[HV.out] at hv0' hv1' hv2';simp at hv0' hv1' hv2';rw[←hv0'.1] at k0';rw[←hv1'.1] at k1';rw[←hv2'.1] at k2';have t8':=r'.txn HT.out.1 8 (v:=A.vreads s) rfl;rw[HV.out] at t8';exact⟨(f1.grow g').cell 0 rfl,(f3.grow g').cell 0 rfl,t8',k0',k1',k2'⟩
    have HN:=zH (fun w' (q:Rep A σ w')=>needs_any q s t HT.out.1 (t.reads.getD i (0,0,false)).1 (t.reads.getD i (0,0,false)).2.1 (t.reads.getD i (0,0,false)).2.2);have HS:Hid (t.needs (t.reads.getD i (0,0,false))=false→judgeK t i=judgeK t (i+1)):=judge_step t i hlt;have HFI:Hid (t.needs (t.reads.getD i (0,0,false))=true→judgeK t i=.start ⟨(t.reads.getD i (0,0,false)).1,t.end_,.judge i (t.reads.getD i (0,0,false)).2.1⟩):=judge_find t i hlt;have HQ:=zH (zA hj (zA r (zA g (zA hlt (zA f0 (zA f1 (zA f2 f3)))))));have HRd:Hid (Rep A σ wr.drew):=r.drew;have HG:Hid (Grow A.L wr A.L wr.drew):=Grow.drew _ _;have b1:decide ((i:Int)<(t.reads.length:Int))=true:=by simpa using hlt
    have b2:decide (i<t.reads.length)=true:=by simpa using hlt
    have b3:((i:Int)<(t.reads.length:Int))=True:=by simpa using hlt
    have n1:IntKind.i64.wrap ((i:Int)+1)=(i:Int)+1:=by rw[IntKind.wrap_i64];have:=HT.out.2.2;omega
    rw[Nat.mul_comm 3] at k0 k1 k2 HK;clear hj r g hi f0 f1 f2 f3 hown e0 e1 e2 hv0 hv1 hv2;generalize hnb:t.needs (t.reads.getD i (0,0,false))=nb at*;generalize (t.reads.getD i (0,0,false)).1=key at*;generalize (t.reads.getD i (0,0,false)).2.1=link at*;generalize (t.reads.getD i (0,0,false)).2.2=got at*;clear hnb
    cases nb with
    |false=>
     clear HFI;go_wp2_with fail
     go_region_held3 (fun w'=>w'.cell? ⟨w.heap.size+1,0,none⟩=some (.pointer (some ⟨A.bt s,0,none⟩))∧w'.cell? ⟨w.heap.size+1+1+1,0,none⟩=some (zi (i:Int))∧w'.cell? ⟨A.bt s,8,none⟩=some (.slice (some ⟨g0,0,none⟩) t.reads.length capv)∧w'.cell? ⟨g0,i*3,none⟩=some (zi (key:Int))∧w'.cell? ⟨g0,i*3+1,none⟩=some (zu (link:Int))∧w'.cell? ⟨g0,i*3+2,none⟩=some (.bool got))
      (first|exact⟨c1,c3,t8,k0,k1,k2⟩|assumption|exact HK.out _ (by assumption) (by assumption))
      (first|(go_at_call 131;refine (HN.out _ HRd.out).mono ?_;rintro e w1 ⟨rfl,hb⟩;have q1:=HRd.out.below hb;have q2:=HG.out.trans (Grow.below (L:=A.L) hb)))
     obtain⟨hj,r,g,hlt,f0,f1,f2,f3⟩:=HQ.out;have F3:=f3.grow q2;have y3:=F3.cell 0 (v:=zi (i:Int)) rfl;have z3:=F3.frozen 0;obtain⟨r5,g5⟩:=HW.out.setNew q1 (g.trans q2) rfl rfl (a:=⟨w.heap.size+1+1+1,0,none⟩) (by simp;omega) F3.1 (zi ((i:Int)+1));have F0:=(f0.grow q2).setOther (a:=⟨w.heap.size+1+1+1,0,none⟩) (by simp<;>omega) (zi ((i:Int)+1));have F1:=(f1.grow q2).setOther (a:=⟨w.heap.size+1+1+1,0,none⟩) (by simp<;>omega) (zi ((i:Int)+1));have F2:=(f2.grow q2).setOther (a:=⟨w.heap.size+1+1+1,0,none⟩) (by simp<;>omega) (zi ((i:Int)+1));have HZ:=zH (zA r5 (zA g5 (zA F0 (zA F1 (zA F2 (F3.setSame (zi ((i:Int)+1))))))));have HB:=zH hbase;clear hj r g hlt f0 f1 f2 f3 F3 r5 g5 F0 F1 F2 hbase;go_wp2_with fail
     go_roundw
     case rel=>
      obtain⟨r5,g5,F0,F1,F2,F3⟩:=HZ.out;exact⟨i+1,by have:=HQ.out.2.2.2.1;omega,HQ.out.1.trans (HS.out trivial),r5,g5,F0,F1,F2,F3⟩
     case measure=>
      rw[HB.out,(HZ.out.2.2.2.2.2).cell 0 (v:=zi ((i:Int)+1)) rfl];have:=HQ.out.2.2.2.1;simp;omega
    |true=>
     clear HS;go_wp2_with fail
     go_region_held3 (fun w'=>w'.cell? ⟨w.heap.size+1,0,none⟩=some (.pointer (some ⟨A.bt s,0,none⟩))∧w'.cell? ⟨w.heap.size+1+1+1,0,none⟩=some (zi (i:Int))∧w'.cell? ⟨A.bt s,8,none⟩=some (.slice (some ⟨g0,0,none⟩) t.reads.length capv)∧w'.cell? ⟨g0,i*3,none⟩=some (zi (key:Int))∧w'.cell? ⟨g0,i*3+1,none⟩=some (zu (link:Int))∧w'.cell? ⟨g0,i*3+2,none⟩=some (.bool got))
      (first|exact⟨c1,c3,t8,k0,k1,k2⟩|assumption|exact HK.out _ (by assumption) (by assumption))
      (first|(go_at_call 131;refine (HN.out _ HRd.out).mono ?_;rintro e w1 ⟨rfl,hb⟩;have q1:=HRd.out.below hb;have q2:=HG.out.trans (Grow.below (L:=A.L) hb)))
     obtain⟨hj,r,g,hlt,f0,f1,f2,f3⟩:=HQ.out;have HX:Hid (∀ n w5,w1.drewN n=w5→Rep A σ w5∧Grow A.L w A.L w5∧Grow A.L wr A.L w5∧w5.cell? ⟨w.heap.size+1,0,none⟩=some (.pointer (some ⟨A.bt s,0,none⟩))∧w5.cell? ⟨w.heap.size+1+1+1,0,none⟩=some (zi (i:Int))∧w5.cell? ⟨A.bt s,8,none⟩=some (.slice (some ⟨g0,0,none⟩) t.reads.length capv)∧w5.cell? ⟨g0,i*3,none⟩=some (zi (key:Int))∧w5.cell? ⟨g0,i*3+1,none⟩=some (zu (link:Int))∧w5.cell? ⟨g0,i*3+2,none⟩=some (.bool got)):=by
      rintro n w5 rfl;obtain⟨x1,x2,x3,x4,x5,x6⟩:=HK.out _ (q1.drewN n) (q2.trans (Grow.drewN _ _ n));exact⟨q1.drewN n,(g.trans q2).trans (Grow.drewN _ _ n),q2.trans (Grow.drewN _ _ n),x1,x2,x3,x4,x5,x6⟩
     have d1:((i:Int)==(t.reads.length:Int))=false:=by simp;omega
     have d2:(i==t.reads.length)=false:=by simp;omega
     have d3:((i:Int)=(t.reads.length:Int))=False:=by simp;omega
     obtain⟨_,_,_,x1,x2,x3,_⟩:=HX.out 0 w1 rfl;have HP:=zH (zA q1 q2);clear hj r g hlt f0 f1 f2 f3 q1 q2 c0 c1 c2 c3 t8 k0 k1 k2 hbase;go_wp2_with fail
     go_quiet (fail)
     generalize hw5:w1.drewN _=w5;obtain⟨r5,g5,gr5,x1,x2,x3,x4,x5,x6⟩:=HX.out _ w5 hw5;obtain⟨y1,y2,y3,y4,y5,y6⟩:=HK.out (w5.alloc (.cells #[zi 0,zu 0,.bool false] 233)) (r5.alloc _) (gr5.trans (Grow.alloc _ _ _));have H5:=zH (zA r5 (zA g5 gr5));clear r5 g5 gr5 hw5;go_wp2_with fail
     go_region
     generalize hw6:(w5.alloc _).drew=w6;obtain⟨_,_,_,hlt,f0,f1,f2,f3⟩:=HQ.out;obtain⟨r7,g7,f4⟩:=allocs1 H5.out.1 #[zi (key:Int),zu (link:Int),.bool got] 233;have g56:Grow A.L w5 A.L w6:=by rw[←hw6];exact g7.trans (Grow.drew _ _)
     have r6:Rep A σ w6:=by rw[←hw6];exact r7.drew
     have F4:Fix A.L w6 w5.heap.size (.cells #[zi (key:Int),zu (link:Int),.bool got] 233):=by rw[←hw6];exact f4.grow (Grow.drew _ _)
     have gq:=(H5.out.2.2).trans g56;have F0:=f0.grow gq;have F1:=f1.grow gq;have F2:=f2.grow gq;have F3:=f3.grow gq;have y0:=F0.cell 0 (v:=.pointer (some ⟨A.be,0,none⟩)) rfl;have y1:=F1.cell 0 (v:=.pointer (some ⟨A.bt s,0,none⟩)) rfl;have y4:=F4.cell 0 (v:=zi (key:Int)) rfl;have yt:=r6.txn HT.out.1 4 (v:=zu (t.end_:Int)) rfl;have gd:=Grow.drew A.L w6;have hf:=find_any r6.drew s key t.end_ (.func (.func 133) #[] #[.pointer (some ⟨w5.heap.size,0,none⟩),.pointer (some ⟨w.heap.size,0,none⟩),.pointer (some ⟨w.heap.size+1,0,none⟩),.pointer (some ⟨w.heap.size+1+1,0,none⟩),.pointer (some ⟨w.heap.size+1+1+1,0,none⟩)]) (.judge i link) ⟨_,_,_,_,_,rfl,⟨_,_,_,F4.grow gd⟩,F0.box.grow gd,F1.box.grow gd,F2.box.grow gd,F3.box.grow gd⟩;have HE:=zH (zA hf ((H5.out.2.1.trans g56).trans gd));clear hlt f0 f1 f2 f3 r7 g7 f4 g56 r6 F4 gq F0 F1 F2 F3 gd hf hw6 x1 x2 x3 x4 x5 x6;go_wp2_with fail;refine wp_region_still_tail 9 (by kernel_rfl) (by kernel_rfl) ?_;simp only[zta,ztb,ztc,ztd]
     repeat still_step
     refine wpStill_nil ?_;change wpList _ _ _ _ _ w6.drew;generalize w6.drew=wd at*;go_wp2_with (go_at_call 95;refine HE.out.1.mono ?_;rintro e w2 ⟨A2,v,rfl,p1,p2,p3,p4⟩);go_ret;rw[HQ.out.1,HFI.out trivial];exact⟨A2,v,rfl,p1,HE.out.2.trans p2,p3,p4⟩
  · obtain rfl:i=t.reads.length:=by omega
    have HQ:=zH (zA hj (zA r g));have HA:Hid (∀ w',Rep A σ w'→Calls Tryz.prog 132 #[.pointer (some ⟨A.be,0,none⟩),.pointer (some ⟨A.bt s,0,none⟩),.pointer (some ⟨A.bc s,0,none⟩),zi 0] w' (Tells A w' s (σ,waitK t 0))):=fun w' q=>wait_any q s t HT.out.1 0
    have HJ:=zH (judge_end t);clear hj r g hi hlt f0 f1 f2 f3;generalize t.reads.length=n at*;have d1:decide ((n:Int)<(n:Int))=false:=by simp
    go_wp2_with fail
    go_quiet (fail)
    generalize hw5:wr.drewN _=w5;have c0:w5.cell? ⟨w.heap.size,0,none⟩=some (.pointer (some ⟨A.be,0,none⟩)):=by rw[←hw5];exact c0
    have c1:w5.cell? ⟨w.heap.size+1,0,none⟩=some (.pointer (some ⟨A.bt s,0,none⟩)):=by rw[←hw5];exact c1
    have c2:w5.cell? ⟨w.heap.size+1+1,0,none⟩=some (.pointer (some ⟨A.bc s,0,none⟩)):=by rw[←hw5];exact c2
    have c3:w5.cell? ⟨w.heap.size+1+1+1,0,none⟩=some (zi (n:Int)):=by rw[←hw5];exact c3
    have t8:w5.cell? ⟨A.bt s,8,none⟩=some (.slice av n capv):=by rw[←hw5];exact t8
    have r5:Rep A σ w5:=by rw[←hw5];exact HQ.out.2.1.drewN _
    have g5:Grow A.L w A.L w5:=by rw[←hw5];exact HQ.out.2.2.trans (Grow.drewN _ _ _)
    have H5:=zH (zA r5 g5);clear r5 g5 hw5;go_wp2_with fail
    go_quiet (fail)
    go_wp2_with (go_at_call 132;refine (HA.out _ (H5.out.1.drewN _)).mono ?_;rintro e w2 ⟨A2,v,rfl,p1,p2,p3,p4⟩);go_ret;rw[HQ.out.1,HJ.out];exact⟨A2,v,rfl,p1,(H5.out.2.trans (Grow.drewN _ _ _)).trans p2,p3,p4⟩
theorem index_any (w:World) (l:List Nat) (v:Value) (x:Nat) (ho:w.ownsRow 0 3 1 v l.length (l.map i64)) (hl:l.length<1000000):
 Calls Tryz.prog 224 #[v,zi (x:Int)] w fun e w'=>(∃ r:Int,e=.returned (zi r)∧(0≤r↔x∈l))∧w=w':=by
 obtain⟨av,capv,hv,_⟩:=Ow.own_form ho;have hat:∀ k (hk:k<l.length),∃ g,av=some ⟨g,0,none⟩∧w.cell? ⟨g,k,none⟩=some (zi (l[k]:Int)):=by
  intro k hk;obtain⟨g,cap,e,hc⟩:=own_at ho (j:=k) (u:=zi (l[k]:Int)) (by simp[hk]);rw[hv] at e;simp only[Value.slice.injEq] at e;exact⟨g,e.1,hc⟩
 subst hv;have HAT:=zH hat;have HLL:=zH hl;clear hat ho hl;go_enter Tryz.func224,Tryz.ntmps224;go_wp2
 go_loop [8] (fun i=>∃ k:Nat,k≤l.length∧i=zi (k:Int)∧x ∉ l.take k) (fun i=>l.length - (intOf i).toNat)
 case atStart=>exact⟨0,Nat.zero_le _,rfl,by simp⟩
 case round=>
  obtain⟨k,hk,rfl,hnot⟩:=hrel
  by_cases hlt:k<l.length
  · obtain⟨g,rfl,hc⟩:=HAT.out k hlt
    have ht:l.take (k+1)=l.take k++[l[k]]:=by rw[List.take_succ_eq_append_getElem hlt]
    have hmem:l[k]∈l:=List.getElem_mem hlt;have HT:=zH (zA ht (zA hnot hmem));have b1:(k:Int)<(l.length:Int):=by omega
    have b0:(0:Int)≤(k:Int):=by omega
    have n1:IntKind.i64.wrap ((k:Int)+1)=(k:Int)+1:=by have:=HLL.out;rw[IntKind.wrap_i64];omega
    have HLT:=zH hlt;clear ht hnot hk hmem;generalize l[k]=y at*
    by_cases hy:x=y
    · have HY:=zH hy
      obtain⟨fa1,fa2,fa3,fa4,fa5⟩:=zeT (x:=x) (c:=y) (ci:=(y:Int)) (by omega);clear hy;go_wp2;go_ret;exact⟨⟨_,rfl,by constructor<;>intro _<;>first|(rw[HY.out];exact HT.out.2.2)|omega⟩,rfl⟩
    · have HY:=zH hy
      obtain⟨fa1,fa2,fa3,fa4,fa5⟩:=zeF (x:=x) (c:=y) (ci:=(y:Int)) (by omega);clear hy;go_wp2
      go_round
      case rel=>exact⟨k+1,HLT.out,by first|rfl|go_num,by rw[HT.out.1];intro h;rcases List.mem_append.1 h with h|h;exact HT.out.2.1 h;exact HY.out (List.mem_singleton.1 h)⟩
      case measure=>have:=HLT.out;simp[intOf];omega
  · have hx:x ∉ l:=by rw[List.take_of_length_le (by omega)] at hnot;exact hnot
    have HX:=zH hx;obtain rfl:k=l.length:=by omega
    clear hlt hnot hk hx;go_wp2;go_ret;exact⟨⟨_,rfl,by constructor;intro h;exact absurd h (by decide);intro h;exact absurd h HX.out⟩,rfl⟩
theorem contains_any (w:World) (l:List Nat) (v:Value) (x:Nat) (ho:w.ownsRow 0 3 1 v l.length (l.map i64)) (hl:l.length<1000000):
 Calls Tryz.prog 223 #[v,zi (x:Int)] w fun e w'=>e=.returned (.bool (decide (x∈l)))∧w=w':=by
 have HI:=zH (index_any w l v x ho hl);clear ho hl;go_enter Tryz.func223,Tryz.ntmps223;go_wp2_with (go_at_call 224;refine HI.out.mono ?_;rintro e w' ⟨⟨r,rfl,hr⟩,rfl⟩);go_ret;refine⟨?_,rfl⟩;have e:decide ((0:Int)≤r)=decide (x∈l):=by rw[decide_eq_decide];exact hr
 first|(rw[←e];rfl)|(simp[hr];done)|(rw[show decide (r≥0)=decide (x∈l) from e])
theorem Does.trans2 {A:Book} {w w1:World} {s:Nat} {σ1 σ2:St} {v:Value} {e:Ending} {w':World} {A1:Book} (g1:Grow A.L w A1.L w1) (s1:Stay A A1 s) (b1:A1.bx=A.bx) (p1:A1.vpairs=A.vpairs) (h:Does A1 w1 s σ2 v e w'):Does A w s σ2 v e w':=
 let ⟨e1,A2,r,g,st,bx,vp⟩:=h;⟨e1,A2,r,g1.trans g,s1.trans st,bx.trans b1,vp.trans p1⟩
theorem bind_any {A:Book} {σ:St} {w:World} (hR:Rep A σ w) (s:Nat) (t:Txn) (ht:σ.txns.getD s none=some t) (to:Nat) (hto:to≤65535) (hn:t.bonds.length<1000000) (htl:σ.tale.length<1000000):
 Calls Tryz.prog 221 #[.pointer (some ⟨A.be,0,none⟩),.pointer (some ⟨A.bt s,0,none⟩),zi (to:Int)] w (Does A w s (σ.bind s to) (.tuple #[])):=by
 have c9:w.cell? ⟨A.bt s,9,none⟩=some (A.vbonds s):=hR.txn ht 9 rfl;have z9:=hR.txnF ht 9;have hown0:=hR.mem.all (.bonds s);rw[mem_bonds ht] at hown0;obtain⟨av,capv,hv,_⟩:=Ow.own_form hown0.1;have HC:=zH (contains_any w t.bonds _ to hown0.1 hn)
 by_cases hm:to∈t.bonds
 · have hst:σ.bind s to=σ:=by unfold St.bind;rw[txn_get ht,if_pos hm]
   rw[hst];have hd:decide (to∈t.bonds)=true:=by simpa using hm
   rw[hd,hv] at HC;rw[hv] at c9;have HR:=zH hR;clear hR ht hn htl hm hst hd hown0 hto hv;generalize t.bonds.length=n at*;go_enter Tryz.func221,Tryz.ntmps221;go_wp2_with (go_at_call 223;refine HC.out.mono ?_;rintro e w' ⟨rfl,rfl⟩)
   go_end0
   exact⟨rfl,A,HR.out,Grow.refl _ _,Stay.refl _ _,rfl,rfl⟩
 · have hd:decide (to∈t.bonds)=false:=by simpa using hm
   rw[hd,hv] at HC;have hst:σ.bind s to=(σ.setT s {t with bonds:=t.bonds++[to]}).event {kind:=4,t:=t.id,n:=to}:=by unfold St.bind;rw[txn_get ht,if_neg hm]
   rw[hst];have hA:=hR.alloc (.cells #[zi (to:Int)] 3);have hown:=hA.mem.all (.bonds s);rw[mem_bonds ht] at hown;have ho:(w.alloc (.cells #[zi (to:Int)] 3)).ownsRow 0 3 1 (A.vbonds s) t.bonds.length (t.bonds.map i64):=hown.1;have n1:IntKind.u64.wrap (to:Int)=(to:Int):=by rw[IntKind.wrap_u64];omega
   have FN : Hid (∀ v' w2, w2.ownsRow 0 3 1 v' (t.bonds.length + 1) (t.bonds.map i64 ++ [zi (to : Int)]) → (w.alloc (.cells #[zi (to : Int)] 3)).grownBy w2 (A.vbonds s).ownBlock → (v'.ownBlock = (A.vbonds s).ownBlock ∨ ∀ g, v'.ownBlock = some g → (w.alloc (.cells #[zi (to : Int)] 3)).heap.size ≤ g) →
       (w2.setCell ⟨A.bt s,9,none⟩ v').cell? ⟨A.bt s,0,none⟩=some (zi (t.id:Int))∧Calls Tryz.prog 53 #[.pointer (some ⟨A.be,0,none⟩),.agg #[zi 4,zi (t.id:Int),zu (to:Int),zi 0,zi 0,zi 0,zi 0,zi 0,zi 0,.slice none 0 0,zi 0,zi 0]] (w2.setCell ⟨A.bt s,9,none⟩ v') (Does A w s ((σ.setT s {t with bonds:=t.bonds++[to]}).event {kind:=4,t:=t.id,n:=to}) (.tuple #[]))∧w2.cell? ⟨A.bt s,9,none⟩=some (A.vbonds s)∧w2.frozen? ⟨A.bt s,9,none⟩=false):=by
    intro v' w2 q1 q2 q3;obtain⟨k1,k2,k3,k4⟩:=hA.bondsOn ht (t.bonds++[to]) v' q2 (by simpa using q1) q3;have ht2:(σ.setT s {t with bonds:=t.bonds++[to]}).txns.getD s none=some {t with bonds:=t.bonds++[to]}:=by rw[getT_set (lt_of_txn ht),if_pos rfl]
    refine⟨k1.txn ht2 0 rfl,?_,k3,k4⟩;have he:=event_any k1 s {kind:=4,t:=t.id,n:=to} 4 t.id to 0 0 0 0 0 0 0 0 none 0 0 rfl (PRow.nil _ _) htl;refine he.mono fun e w' h=>?_
    exact Does.trans2 (σ1:=σ) ((Grow.alloc A.L w _).trans k2) ⟨rfl,rfl,rfl,rfl,rfl,rfl,rfl,rfl,rfl,rfl,rfl,fun _ _=>rfl,fun _ _=>rfl⟩ rfl rfl h
   rw[hv] at c9 ho FN;have HO:=zH ho;clear hR ht htl hm hst hd hown0 hto hv hA hown ho;generalize hn':t.bonds.length=n at*;have HN:=zH hn;clear hn hn';obtain⟨ii,hii,hz0,hz1,hz2⟩:=info_parts infoI;go_enter Tryz.func221,Tryz.ntmps221;go_wp2_with (first|(go_at_call 223;refine HC.out.mono ?_;rintro e w' ⟨rfl,rfl⟩)|(refine Ow.wpList_append_to _ rfl (.tmp 17) (.tmp 19) 35 rfl 0 _ ii _ 1 8 Tryz.underlying35 hii hz0 hz1 hz2 rfl (by decide) (.slice av n capv) n (t.bonds.map i64) rfl HO.out ⟨w.heap.size,0,none⟩ 1 1 (by omega) [zi (to:Int)] rfl rfl (by intro j' u hu;exact Ow.new_row _ [zi (to:Int)] _ _ rfl j' u hu) (by intro u hu;obtain rfl:=List.mem_singleton.1 hu;rfl) (by have:=HN.out;unfold maxLen;omega) (by have:=HN.out;omega) (Nat.zero_le _) ?_;intro v' w4 q1 q2 q3;obtain⟨k1,k2,k3,k4⟩:=FN.out v' w4 q1 q2 q3;obtain⟨a4,cap4,rfl,_⟩:=Ow.own_form q1;have K1:=zH k2;clear k2 q1 q2 q3)|(go_at_call 53;refine K1.out.mono ?_;rintro e w2 hd2;obtain⟨rfl,hd3⟩:=id hd2))
   go_end0
   exact⟨rfl,hd3⟩
variable {A:Book} {σ:St} {w:World}
def STells (A:Book) (σ:St) (w:World) (k:Option S):Ending→World→Prop:=fun e w'=>∃ v,e=.returned v∧Rep A σ w'∧Grow A.L w A.L w'∧SRep A.be A.L w' v k
theorem smaker_any (hR:Rep A σ w) (key:Nat) (ahead:Nat) (link:Nat) (id:Nat):
 Calls Tryz.prog 169 #[.pointer (some ⟨A.be,0,none⟩),zi (key:Int),zu (ahead:Int),zu (link:Int),zi (id:Int)] w (STells A σ w (some (.maker key ahead link id))):=by
 have F:=zH (allocs5 hR #[.pointer (some ⟨A.be,0,none⟩)] 31 #[zi (key:Int)] 3 #[zu (ahead:Int)] 25 #[zu (link:Int)] 25 #[zi (id:Int)] 3);clear hR;go_enter Tryz.func169,Tryz.ntmps169;go_wp2;go_ret;obtain⟨r1,r2,f0,f1,f2,f3,f4⟩:=F.out;exact⟨_,rfl,r1,r2,_,_,_,_,_,rfl,f0.box,f4.box,f1.box,f2.box,f3.box⟩
theorem sgarbage_any (hR:Rep A σ w) (key:Nat) (ahead:Nat) (link:Nat) (b:Nat):
 Calls Tryz.prog 170 #[.pointer (some ⟨A.be,0,none⟩),zi (key:Int),zu (ahead:Int),zu (link:Int),zu (b:Int)] w (STells A σ w (some (.garbage key ahead link b))):=by
 have F:=zH (allocs5 hR #[.pointer (some ⟨A.be,0,none⟩)] 31 #[zi (key:Int)] 3 #[zu (ahead:Int)] 25 #[zu (link:Int)] 25 #[zu (b:Int)] 25);clear hR;go_enter Tryz.func170,Tryz.ntmps170;go_wp2;go_ret;obtain⟨r1,r2,f0,f1,f2,f3,f4⟩:=F.out;exact⟨_,rfl,r1,r2,_,_,_,_,_,rfl,f4.box,f0.box,f3.box,f1.box,f2.box⟩
theorem son_any (hR:Rep A σ w) (key:Nat) (link:Nat):
 Calls Tryz.prog 187 #[.pointer (some ⟨A.be,0,none⟩),zi (key:Int),zu (link:Int)] w (STells A σ w (some (.on key link))):=by
 have F:=zH (allocs3 hR #[.pointer (some ⟨A.be,0,none⟩)] 31 #[zi (key:Int)] 3 #[zu (link:Int)] 25);clear hR;go_enter Tryz.func187,Tryz.ntmps187;go_wp2;go_ret;obtain⟨r1,r2,f0,f1,f2⟩:=F.out;exact⟨_,rfl,r1,r2,_,_,_,rfl,f0.box,f1.box,f2.box⟩
theorem sunlink_any (hR:Rep A σ w) (key:Nat) (ahead:Nat) (link:Nat):
 Calls Tryz.prog 186 #[.pointer (some ⟨A.be,0,none⟩),zi (key:Int),zu (ahead:Int),zu (link:Int)] w (STells A σ w (some (.unlink key ahead link))):=by
 have F:=zH (allocs4 hR #[.pointer (some ⟨A.be,0,none⟩)] 31 #[zi (key:Int)] 3 #[zu (ahead:Int)] 25 #[zu (link:Int)] 25);clear hR;go_enter Tryz.func186,Tryz.ntmps186;go_wp2;go_ret;obtain⟨r1,r2,f0,f1,f2,f3⟩:=F.out;exact⟨_,rfl,r1,r2,_,_,_,_,rfl,f0.box,f3.box,f1.box,f2.box⟩
theorem scut_any (hR:Rep A σ w) (key:Nat) (ahead:Nat) (link:Nat) (nx:Nat):
 Calls Tryz.prog 198 #[.pointer (some ⟨A.be,0,none⟩),zi (key:Int),zu (ahead:Int),zu (link:Int),zu (nx:Int)] w (STells A σ w (some (.cut key ahead link nx))):=by
 have F:=zH (allocs5 hR #[.pointer (some ⟨A.be,0,none⟩)] 31 #[zi (key:Int)] 3 #[zu (ahead:Int)] 25 #[zu (link:Int)] 25 #[zu (nx:Int)] 25);clear hR;go_enter Tryz.func198,Tryz.ntmps198;go_wp2;go_ret;obtain⟨r1,r2,f0,f1,f2,f3,f4⟩:=F.out;exact⟨_,rfl,r1,r2,_,_,_,_,_,rfl,f2.box,f0.box,f4.box,f1.box,f3.box⟩
theorem shead_any (hR:Rep A σ w) (key:Nat) (hk:key≤64):
 Calls Tryz.prog 116 #[.pointer (some ⟨A.be,0,none⟩),zi (key:Int)] w (STells A σ w (headS key)):=by
 have F:=zH (allocs2 hR #[.pointer (some ⟨A.be,0,none⟩)] 31 #[zi (key:Int)] 3);clear hR;unfold headS
 by_cases h63:63<key
 · have h1:((63:Int)<(key:Int))=True:=by simp;omega
   have h2:decide ((63:Int)<(key:Int))=true:=by simp;omega
   rw[if_pos h63];go_enter Tryz.func116,Tryz.ntmps116;go_wp2;go_ret;obtain⟨r1,r2,f0,f1⟩:=F.out;exact⟨_,rfl,r1,r2,rfl⟩
 · have h1:((63:Int)<(key:Int))=False:=by simp;omega
   have h2:decide ((63:Int)<(key:Int))=false:=by simp;omega
   rw[if_neg h63];go_enter Tryz.func116,Tryz.ntmps116;go_wp2;go_ret;obtain⟨r1,r2,f0,f1⟩:=F.out;exact⟨_,rfl,r1,r2,_,_,rfl,f0.box,f1.box⟩
theorem slive_any (hR:Rep A σ w) (s:Nat) (hs:s≤8):
 Calls Tryz.prog 84 #[.pointer (some ⟨A.be,0,none⟩),zi (s:Int)] w (STells A σ w (liveS s)):=by
 have F:=zH (allocs2 hR #[.pointer (some ⟨A.be,0,none⟩)] 31 #[zi (s:Int)] 3);have HH:=zH (shead_any (F.out.1) 0 (by decide));clear hR;unfold liveS
 by_cases h8:s=8
 · have h1:((s:Int)=8)=True:=by simp;omega
   have h2:((s:Int)==8)=true:=by simp;omega
   rw[if_pos h8];clear h8;go_enter Tryz.func84,Tryz.ntmps84;go_wp2_with (go_at_call 116;refine HH.out.mono ?_;rintro e w9 ⟨v,rfl,q1,q2,q3⟩;have HQ:=zH (zA q1 (zA q2 q3));clear q1 q2 q3);go_ret;exact⟨_,rfl,HQ.out.1,F.out.2.1.trans HQ.out.2.1,HQ.out.2.2⟩
 · have h1:((s:Int)=8)=False:=by simp;omega
   have h2:((s:Int)==8)=false:=by simp;omega
   rw[if_neg h8];clear h8;go_enter Tryz.func84,Tryz.ntmps84;go_wp2;go_ret;obtain⟨r1,r2,f0,f1⟩:=F.out;exact⟨_,rfl,r1,r2,_,_,rfl,f0.box,f1.box⟩
theorem svisit_any (hR:Rep A σ w) (key ahead link:Nat) (hk:key≤63):
 Calls Tryz.prog 147 #[.pointer (some ⟨A.be,0,none⟩),zi (key:Int),zu (ahead:Int),zu (link:Int)] w (STells A σ w (visitS key ahead link)):=by
 have F:=zH (allocs4 hR #[.pointer (some ⟨A.be,0,none⟩)] 31 #[zi (key:Int)] 3 #[zu (ahead:Int)] 25 #[zu (link:Int)] 25);have HH:=zH (shead_any (F.out.1) (key+1) (by omega));have n1:IntKind.i64.wrap ((key:Int)+1)=((key+1:Nat):Int):=by rw[IntKind.wrap_i64];omega
 clear hR;unfold visitS
 by_cases h8:link=0
 · have h1:((link:Int)=0)=True:=by simp;omega
   have h2:((link:Int)==0)=true:=by simp;omega
   rw[if_pos h8];clear h8;generalize ((key+1:Nat):Int)=k1 at*;go_enter Tryz.func147,Tryz.ntmps147;go_wp2_with (go_at_call 116;refine HH.out.mono ?_;rintro e w9 ⟨v,rfl,q1,q2,q3⟩;have HQ:=zH (zA q1 (zA q2 q3));clear q1 q2 q3);go_ret;exact⟨_,rfl,HQ.out.1,F.out.2.1.trans HQ.out.2.1,HQ.out.2.2⟩
 · have h1:((link:Int)=0)=False:=by simp;omega
   have h2:((link:Int)==0)=false:=by simp;omega
   rw[if_neg h8];clear h8;go_enter Tryz.func147,Tryz.ntmps147;go_wp2;go_ret;obtain⟨r1,r2,f0,f1,f2,f3⟩:=F.out;exact⟨_,rfl,r1,r2,_,_,_,_,rfl,f0.box,f3.box,f1.box,f2.box⟩
structure SOnly (A A':Book):Prop where
 ex:∃ L v c f m hc g cs,A'={A with L:=L,vsweep:=v,vcut:=c,vfree:=f,mp:=m,hcut:=hc,gcut:=g,cutCs:=cs}
 mp:A'.mp=A.mp
theorem SOnly.refl (A:Book):SOnly A A:=⟨⟨_,_,_,_,_,_,_,_,rfl⟩,rfl⟩
theorem SOnly.trans {A B C:Book} (h:SOnly A B) (k:SOnly B C):SOnly A C:=by
 obtain⟨⟨L,v,c,f,m,hc,gc,cs,rfl⟩,h2⟩:=h;obtain⟨⟨L',v',c',f',m',hc',gc',cs',rfl⟩,k2⟩:=k;exact⟨⟨_,_,_,_,_,_,_,_,rfl⟩,k2.trans h2⟩
def CRow (A:Book) (σ:St) (w:World):Prop:=CutOk A σ.cut
def SRan (A:Book) (σ:St) (w:World) (r:St×Bool):Ending→World→Prop:=fun e w'=>e=.returned (.bool r.2)∧∃ A',SOnly A A'∧Rep A' r.1 w'∧Grow A.L w A'.L w'∧SRep A'.be A'.L w' (A'.sv r.1.sw) r.1.sw∧(CRow A σ w→CRow A' r.1 w')
theorem Rep.sweepPut (h:Rep A σ w) (v:Value) (x:Option S) (hs:SRep A.be A.L w v x):
 ∃ A',SOnly A A'∧A'.ctf=A.ctf∧Rep A' {σ with sw:=x} (w.setCell ⟨A.be,25,none⟩ v)∧Grow A.L w A'.L (w.setCell ⟨A.be,25,none⟩ v)∧SRep A'.be A'.L (w.setCell ⟨A.be,25,none⟩ v) (A'.sv x) x:=by
 cases x with
 |none=>
  have e:v=.nilFunc:=hs;subst e;obtain⟨r,g⟩:=h.sweepNil;exact⟨A,SOnly.refl A,rfl,r,g,rfl⟩
 |some k=>
  obtain⟨r,g⟩:=h.sweepSet v k;exact⟨{A with vsweep:=v},⟨⟨_,_,_,_,_,_,_,_,rfl⟩,rfl⟩,rfl,r,g,hs.grow g⟩
theorem CRow.keep {A A':Book} {σ σ':St} {w w':World} (h:CRow A σ w) (e:A'.ctf=A.ctf) (ec:σ'.cut=σ.cut) (g:Grow A.L w A'.L w'):CRow A' σ' w':=by
 have c1:A'.vcut=A.vcut:=congrArg (·.1) e;have c2:A'.hcut=A.hcut:=congrArg (·.2.1) e;have c3:A'.gcut=A.gcut:=congrArg (·.2.2.1) e;have c4:A'.cutCs=A.cutCs:=congrArg (·.2.2.2) e;unfold CRow CutOk at*;rw[ec,c1,c2,c3,c4];exact h
theorem SRep.form {e:Nat} {L:Lab} {w:World} {v:Value}:∀ {k:S},SRep e L w v (some k)→∃ fv fb fc,v=.func (.func fv) fb fc
 |.now,h=>⟨_,_,_,h⟩
 |.live _,h=>let ⟨_,_,e,_⟩:=h;⟨_,_,_,e⟩
 |.head _,h=>let ⟨_,_,e,_⟩:=h;⟨_,_,_,e⟩
 |.visit _ _ _,h=>let ⟨_,_,_,_,e,_⟩:=h;⟨_,_,_,e⟩
 |.maker _ _ _ _,h=>let ⟨_,_,_,_,_,e,_⟩:=h;⟨_,_,_,e⟩
 |.garbage _ _ _ _,h=>let ⟨_,_,_,_,_,e,_⟩:=h;⟨_,_,_,e⟩
 |.on _ _,h=>let ⟨_,_,_,e,_⟩:=h;⟨_,_,_,e⟩
 |.unlink _ _ _,h=>let ⟨_,_,_,_,e,_⟩:=h;⟨_,_,_,e⟩
 |.cut _ _ _ _,h=>let ⟨_,_,_,_,_,e,_⟩:=h;⟨_,_,_,e⟩
theorem k_head (hR:Rep A σ w) (key:Nat) (hk:key≤63) (hcnt:σ.count<4000000000000000000) (b0:Nat) (b1:Nat) (B0:Box A.L w b0 (.pointer (some ⟨A.be,0,none⟩))) (B1:Box A.L w b1 (zi (key:Int))):
 Calls Tryz.prog 146 #[.pointer (some ⟨b0,0,none⟩),.pointer (some ⟨b1,0,none⟩)] w (SRan A σ w (σ.sweepRun (.head key))):=by
 have c0:=B0.cell;have c1:=B1.cell;have e2:=hR.z2;have n1:IntKind.i64.wrap (9+(key:Int))=9+(key:Int):=by rw[IntKind.wrap_i64];omega
 have HL:Hid (∀ w',Rep A σ w'→Calls Tryz.prog 45 #[.pointer (some ⟨A.ba,0,none⟩),zi (9+(key:Int))] w' (Did A w' σ.tick (zu (σ.word (9+key):Int)))):=fun w' r=>load_i r (9+key) (9+(key:Int)) (by omega) (by rw[r.nw];omega) hcnt
 have HRd:Hid (Rep A σ w.drew):=hR.drew;have HKK:Hid (∀ w',Rep A σ.tick w'→Grow A.L w A.L w'→w'.cell? ⟨b0,0,none⟩=some (.pointer (some ⟨A.be,0,none⟩))∧w'.cell? ⟨b1,0,none⟩=some (zi (key:Int))∧w'.cell? ⟨A.be,2,none⟩=some (.pointer (some ⟨A.ba,0,none⟩))):=fun w' r g=>⟨(B0.grow g).cell,(B1.grow g).cell,r.eng 2 rfl⟩
 have HKS:Hid (∀ w' x,Rep A σ.tick w'→Grow A.L w A.L w'→(w'.setCell ⟨A.be,25,none⟩ x).cell? ⟨b0,0,none⟩=some (.pointer (some ⟨A.be,0,none⟩))∧(w'.setCell ⟨A.be,25,none⟩ x).cell? ⟨b1,0,none⟩=some (zi (key:Int))∧(w'.setCell ⟨A.be,25,none⟩ x).cell? ⟨A.be,2,none⟩=some (.pointer (some ⟨A.ba,0,none⟩))):=fun w' x r g=>let ⟨r',g'⟩:=r.sweepSet x .now;⟨(B0.grow (g.trans g')).cell,(B1.grow (g.trans g')).cell,r'.eng 2 rfl⟩
 have HM:Hid (∀ w',Rep A σ.tick w'→Calls Tryz.prog 147 #[.pointer (some ⟨A.be,0,none⟩),zi (key:Int),zu 0,zu (σ.word (9+key):Int)] w' (STells A σ.tick w' (visitS key 0 (σ.word (9+key))))):=fun w' r=>svisit_any r key 0 (σ.word (9+key)) hk
 have HG:=zG A.L w;clear hR hcnt B0 B1;have HRES:σ.sweepRun (.head key)=({σ.tick with sw:=visitS key 0 (σ.word (9+key))},false):=rfl;rw[HRES];generalize visitS key 0 (σ.word (9+key))=kk at*;generalize (σ.word (9+key):Int)=hd at*
 cases kk with
 |none=>
  go_enter Tryz.func146,Tryz.ntmps146;go_wp2_with fail
  go_region_held3 (fun w'=>w'.cell? ⟨b0,0,none⟩=some (.pointer (some ⟨A.be,0,none⟩))∧w'.cell? ⟨b1,0,none⟩=some (zi (key:Int))∧w'.cell? ⟨A.be,2,none⟩=some (.pointer (some ⟨A.ba,0,none⟩)))
   (first|exact⟨c0,c1,e2⟩|assumption|go_keep|exact HKK.out _ (by assumption) (by assumption)|exact HKS.out _ _ (by assumption) (by assumption))
   (first|(go_at_call 45;refine (HL.out _ HRd.out).mono ?_;rintro e w1 ⟨rfl,q1,q2⟩;have q4:=HG.out.trans q2)|(go_at_call 147;refine (HM.out _ (by assumption)).mono ?_;rintro e w2 ⟨v,rfl,p1,p2,p3⟩;have e3:v=.nilFunc:=p3;subst e3;obtain⟨vo,y25⟩:∃ vo,w2.cell? ⟨A.be,25,none⟩=some vo:=⟨_,p1.eng 25 (v:=A.sv σ.tick.sw) rfl⟩;have z25:=p1.engF 25;have q5:=q4.trans p2;have HP:=zH p3;clear p2 p3))
  go_wp2_with fail;go_ret;obtain⟨A',a1,a2,a3,a4,a5⟩:=p1.sweepPut _ _ HP.out;exact⟨rfl,A',a1,a3,q5.trans a4,a5,fun hc=>hc.keep a2 rfl (q5.trans a4)⟩
 |some kx=>
  go_enter Tryz.func146,Tryz.ntmps146;go_wp2_with fail
  go_region_held3 (fun w'=>w'.cell? ⟨b0,0,none⟩=some (.pointer (some ⟨A.be,0,none⟩))∧w'.cell? ⟨b1,0,none⟩=some (zi (key:Int))∧w'.cell? ⟨A.be,2,none⟩=some (.pointer (some ⟨A.ba,0,none⟩)))
   (first|exact⟨c0,c1,e2⟩|assumption|go_keep|exact HKK.out _ (by assumption) (by assumption)|exact HKS.out _ _ (by assumption) (by assumption))
   (first|(go_at_call 45;refine (HL.out _ HRd.out).mono ?_;rintro e w1 ⟨rfl,q1,q2⟩;have q4:=HG.out.trans q2)|(go_at_call 147;refine (HM.out _ (by assumption)).mono ?_;rintro e w2 ⟨v,rfl,p1,p2,p3⟩;obtain⟨fv,fb,fc,e3⟩:=SRep.form p3;subst e3;obtain⟨vo,y25⟩:∃ vo,w2.cell? ⟨A.be,25,none⟩=some vo:=⟨_,p1.eng 25 (v:=A.sv σ.tick.sw) rfl⟩;have z25:=p1.engF 25;have q5:=q4.trans p2;have HP:=zH p3;clear p2 p3))
  go_wp2_with fail;go_ret;obtain⟨A',a1,a2,a3,a4,a5⟩:=p1.sweepPut _ _ HP.out;exact⟨rfl,A',a1,a3,q5.trans a4,a5,fun hc=>hc.keep a2 rfl (q5.trans a4)⟩
theorem k_on (hR:Rep A σ w) (key link:Nat) (hk:key≤63) (hv:VL σ link) (hcnt:σ.count<4000000000000000000) (b0:Nat) (b1:Nat) (b2:Nat) (B0:Box A.L w b0 (.pointer (some ⟨A.be,0,none⟩))) (B1:Box A.L w b1 (zi (key:Int))) (B2:Box A.L w b2 (zu (link:Int))):
 Calls Tryz.prog 199 #[.pointer (some ⟨b0,0,none⟩),.pointer (some ⟨b1,0,none⟩),.pointer (some ⟨b2,0,none⟩)] w (SRan A σ w (σ.sweepRun (.on key link))):=by
 have c0:=B0.cell;have c1:=B1.cell;have c2:=B2.cell;have e2:=hR.z2;have hsl:=hR.sl;have HS:=zH (slot_at link 2 2 rfl hv.lo (by have:=hv.hi;omega) hv.u (by omega));have HL:Hid (∀ w',Rep A σ w'→Calls Tryz.prog 45 #[.pointer (some ⟨A.ba,0,none⟩),zi (((wslot link 2:Nat):Int))] w' (Did A w' σ.tick (zu (σ.word (wslot link 2):Int)))):=fun w' r=>load_i r (wslot link 2) (((wslot link 2:Nat):Int)) rfl (wslot_lt r hv.lo hv.hi (by omega)) hcnt
 have HRd:Hid (Rep A σ w.drew):=hR.drew;have HKK:Hid (∀ w',Rep A σ.tick w'→Grow A.L w A.L w'→w'.cell? ⟨b0,0,none⟩=some (.pointer (some ⟨A.be,0,none⟩))∧w'.cell? ⟨b1,0,none⟩=some (zi (key:Int))∧w'.cell? ⟨b2,0,none⟩=some (zu (link:Int))∧w'.cell? ⟨A.be,2,none⟩=some (.pointer (some ⟨A.ba,0,none⟩))):=fun w' r g=>⟨(B0.grow g).cell,(B1.grow g).cell,(B2.grow g).cell,r.eng 2 rfl⟩
 have HKS:Hid (∀ w' x,Rep A σ.tick w'→Grow A.L w A.L w'→(w'.setCell ⟨A.be,25,none⟩ x).cell? ⟨b0,0,none⟩=some (.pointer (some ⟨A.be,0,none⟩))∧(w'.setCell ⟨A.be,25,none⟩ x).cell? ⟨b1,0,none⟩=some (zi (key:Int))∧(w'.setCell ⟨A.be,25,none⟩ x).cell? ⟨b2,0,none⟩=some (zu (link:Int))∧(w'.setCell ⟨A.be,25,none⟩ x).cell? ⟨A.be,2,none⟩=some (.pointer (some ⟨A.ba,0,none⟩))):=fun w' x r g=>let ⟨r',g'⟩:=r.sweepSet x .now;⟨(B0.grow (g.trans g')).cell,(B1.grow (g.trans g')).cell,(B2.grow (g.trans g')).cell,r'.eng 2 rfl⟩
 have HM:Hid (∀ w',Rep A σ.tick w'→Calls Tryz.prog 147 #[.pointer (some ⟨A.be,0,none⟩),zi (key:Int),zu (link:Int),zu (σ.word (wslot link 2):Int)] w' (STells A σ.tick w' (visitS key link (σ.word (wslot link 2))))):=fun w' r=>svisit_any r key link (σ.word (wslot link 2)) hk
 have HG:=zG A.L w;clear hR hcnt B0 B1 B2;have HRES:σ.sweepRun (.on key link)=({σ.tick with sw:=visitS key link (σ.word (wslot link 2))},false):=rfl;rw[HRES];clear hv hsl;generalize visitS key link (σ.word (wslot link 2))=kk at*;generalize (σ.word (wslot link 2):Int)=hd at*;generalize ((wslot link 2:Nat):Int)=ix at*
 cases kk with
 |none=>
  go_enter Tryz.func199,Tryz.ntmps199;go_wp2_with fail
  go_region_held3 (fun w'=>w'.cell? ⟨b0,0,none⟩=some (.pointer (some ⟨A.be,0,none⟩))∧w'.cell? ⟨b1,0,none⟩=some (zi (key:Int))∧w'.cell? ⟨b2,0,none⟩=some (zu (link:Int))∧w'.cell? ⟨A.be,2,none⟩=some (.pointer (some ⟨A.ba,0,none⟩)))
   (first|exact⟨c0,c1,c2,e2⟩|assumption|go_keep|exact HKK.out _ (by assumption) (by assumption)|exact HKS.out _ _ (by assumption) (by assumption))
   (first|(go_at_call 45;refine (HL.out _ HRd.out).mono ?_;rintro e w1 ⟨rfl,q1,q2⟩;have q4:=HG.out.trans q2)|(go_at_call 37;refine (HS.out _).mono ?_;rintro e w9 ⟨rfl,rfl⟩)|(go_at_call 147;refine (HM.out _ (by assumption)).mono ?_;rintro e w2 ⟨v,rfl,p1,p2,p3⟩;have e3:v=.nilFunc:=p3;subst e3;obtain⟨vo,y25⟩:∃ vo,w2.cell? ⟨A.be,25,none⟩=some vo:=⟨_,p1.eng 25 (v:=A.sv σ.tick.sw) rfl⟩;have z25:=p1.engF 25;have q5:=q4.trans p2;have HP:=zH p3;clear p2 p3))
  go_wp2_with fail;go_ret;obtain⟨A',a1,a2,a3,a4,a5⟩:=p1.sweepPut _ _ HP.out;exact⟨rfl,A',a1,a3,q5.trans a4,a5,fun hc=>hc.keep a2 rfl (q5.trans a4)⟩
 |some kx=>
  go_enter Tryz.func199,Tryz.ntmps199;go_wp2_with fail
  go_region_held3 (fun w'=>w'.cell? ⟨b0,0,none⟩=some (.pointer (some ⟨A.be,0,none⟩))∧w'.cell? ⟨b1,0,none⟩=some (zi (key:Int))∧w'.cell? ⟨b2,0,none⟩=some (zu (link:Int))∧w'.cell? ⟨A.be,2,none⟩=some (.pointer (some ⟨A.ba,0,none⟩)))
   (first|exact⟨c0,c1,c2,e2⟩|assumption|go_keep|exact HKK.out _ (by assumption) (by assumption)|exact HKS.out _ _ (by assumption) (by assumption))
   (first|(go_at_call 45;refine (HL.out _ HRd.out).mono ?_;rintro e w1 ⟨rfl,q1,q2⟩;have q4:=HG.out.trans q2)|(go_at_call 37;refine (HS.out _).mono ?_;rintro e w9 ⟨rfl,rfl⟩)|(go_at_call 147;refine (HM.out _ (by assumption)).mono ?_;rintro e w2 ⟨v,rfl,p1,p2,p3⟩;obtain⟨fv,fb,fc,e3⟩:=SRep.form p3;subst e3;obtain⟨vo,y25⟩:∃ vo,w2.cell? ⟨A.be,25,none⟩=some vo:=⟨_,p1.eng 25 (v:=A.sv σ.tick.sw) rfl⟩;have z25:=p1.engF 25;have q5:=q4.trans p2;have HP:=zH p3;clear p2 p3))
  go_wp2_with fail;go_ret;obtain⟨A',a1,a2,a3,a4,a5⟩:=p1.sweepPut _ _ HP.out;exact⟨rfl,A',a1,a3,q5.trans a4,a5,fun hc=>hc.keep a2 rfl (q5.trans a4)⟩
theorem k_unlink (hR:Rep A σ w) (key ahead link:Nat) (hv:VL σ link) (hcnt:σ.count<4000000000000000000) (b0:Nat) (b1:Nat) (b2:Nat) (b3:Nat) (B0:Box A.L w b0 (.pointer (some ⟨A.be,0,none⟩))) (B1:Box A.L w b1 (zu (link:Int))) (B2:Box A.L w b2 (zi (key:Int))) (B3:Box A.L w b3 (zu (ahead:Int))):
 Calls Tryz.prog 197 #[.pointer (some ⟨b0,0,none⟩),.pointer (some ⟨b1,0,none⟩),.pointer (some ⟨b2,0,none⟩),.pointer (some ⟨b3,0,none⟩)] w (SRan A σ w (σ.sweepRun (.unlink key ahead link))):=by
 have c0:=B0.cell;have c1:=B1.cell;have c2:=B2.cell;have c3:=B3.cell;have e2:=hR.z2;have hsl:=hR.sl;have HS:=zH (slot_at link 2 2 rfl hv.lo (by have:=hv.hi;omega) hv.u (by omega));have HL:Hid (∀ w',Rep A σ w'→Calls Tryz.prog 45 #[.pointer (some ⟨A.ba,0,none⟩),zi (((wslot link 2:Nat):Int))] w' (Did A w' σ.tick (zu (σ.word (wslot link 2):Int)))):=fun w' r=>load_i r (wslot link 2) (((wslot link 2:Nat):Int)) rfl (wslot_lt r hv.lo hv.hi (by omega)) hcnt
 have HRd:Hid (Rep A σ w.drew):=hR.drew;have HKK:Hid (∀ w',Rep A σ.tick w'→Grow A.L w A.L w'→w'.cell? ⟨b0,0,none⟩=some (.pointer (some ⟨A.be,0,none⟩))∧w'.cell? ⟨b1,0,none⟩=some (zu (link:Int))∧w'.cell? ⟨b2,0,none⟩=some (zi (key:Int))∧w'.cell? ⟨b3,0,none⟩=some (zu (ahead:Int))∧w'.cell? ⟨A.be,2,none⟩=some (.pointer (some ⟨A.ba,0,none⟩))):=fun w' r g=>⟨(B0.grow g).cell,(B1.grow g).cell,(B2.grow g).cell,(B3.grow g).cell,r.eng 2 rfl⟩
 have HKS:Hid (∀ w' x,Rep A σ.tick w'→Grow A.L w A.L w'→(w'.setCell ⟨A.be,25,none⟩ x).cell? ⟨b0,0,none⟩=some (.pointer (some ⟨A.be,0,none⟩))∧(w'.setCell ⟨A.be,25,none⟩ x).cell? ⟨b1,0,none⟩=some (zu (link:Int))∧(w'.setCell ⟨A.be,25,none⟩ x).cell? ⟨b2,0,none⟩=some (zi (key:Int))∧(w'.setCell ⟨A.be,25,none⟩ x).cell? ⟨b3,0,none⟩=some (zu (ahead:Int))∧(w'.setCell ⟨A.be,25,none⟩ x).cell? ⟨A.be,2,none⟩=some (.pointer (some ⟨A.ba,0,none⟩))):=fun w' x r g=>let ⟨r',g'⟩:=r.sweepSet x .now;⟨(B0.grow (g.trans g')).cell,(B1.grow (g.trans g')).cell,(B2.grow (g.trans g')).cell,(B3.grow (g.trans g')).cell,r'.eng 2 rfl⟩
 have HM:Hid (∀ w',Rep A σ.tick w'→Calls Tryz.prog 198 #[.pointer (some ⟨A.be,0,none⟩),zi (key:Int),zu (ahead:Int),zu (link:Int),zu (σ.word (wslot link 2):Int)] w' (STells A σ.tick w' (some (.cut key ahead link (σ.word (wslot link 2)))))):=fun w' r=>scut_any r key ahead link (σ.word (wslot link 2))
 have HG:=zG A.L w;clear hR hcnt B0 B1 B2 B3;have HRES:σ.sweepRun (.unlink key ahead link)=({σ.tick with sw:=some (.cut key ahead link (σ.word (wslot link 2)))},true):=rfl;rw[HRES];clear hv hsl;generalize hkk:S.cut key ahead link (σ.word (wslot link 2))=kk at*;clear hkk;generalize (σ.word (wslot link 2):Int)=hd at*;generalize ((wslot link 2:Nat):Int)=ix at*;go_enter Tryz.func197,Tryz.ntmps197;go_wp2_with fail
 go_region_held3 (fun w'=>w'.cell? ⟨b0,0,none⟩=some (.pointer (some ⟨A.be,0,none⟩))∧w'.cell? ⟨b1,0,none⟩=some (zu (link:Int))∧w'.cell? ⟨b2,0,none⟩=some (zi (key:Int))∧w'.cell? ⟨b3,0,none⟩=some (zu (ahead:Int))∧w'.cell? ⟨A.be,2,none⟩=some (.pointer (some ⟨A.ba,0,none⟩)))
  (first|exact⟨c0,c1,c2,c3,e2⟩|assumption|go_keep|exact HKK.out _ (by assumption) (by assumption))
  (first|(go_at_call 37;refine (HS.out _).mono ?_;rintro e w9 ⟨rfl,rfl⟩)|(go_at_call 45;refine (HL.out _ HRd.out).mono ?_;rintro e w1 ⟨rfl,q1,q2⟩;have q4:=HG.out.trans q2))
 obtain⟨d0,d1,d2,d3,d9⟩:=HKK.out _ q1 q4;have HQ1:=zH q1.drew;have HG1:=zH (q4.trans (Grow.drew _ _));go_wp2_with fail
 go_region_held3 (fun w'=>w'.cell? ⟨b0,0,none⟩=some (.pointer (some ⟨A.be,0,none⟩))∧w'.cell? ⟨b1,0,none⟩=some (zu (link:Int))∧w'.cell? ⟨b2,0,none⟩=some (zi (key:Int))∧w'.cell? ⟨b3,0,none⟩=some (zu (ahead:Int))∧w'.cell? ⟨A.be,2,none⟩=some (.pointer (some ⟨A.ba,0,none⟩)))
  (first|exact⟨d0,d1,d2,d3,d9⟩|assumption|go_keep|exact HKK.out _ (by assumption) (by assumption)|exact HKS.out _ _ (by assumption) (by assumption))
  (first|(go_at_call 198;refine (HM.out _ HQ1.out).mono ?_;rintro e w2 ⟨v,rfl,p1,p2,p3⟩;obtain⟨fv,fb,fc,e3⟩:=SRep.form p3;subst e3;obtain⟨vo,y25⟩:∃ vo,w2.cell? ⟨A.be,25,none⟩=some vo:=⟨_,p1.eng 25 (v:=A.sv σ.tick.sw) rfl⟩;have z25:=p1.engF 25;have q5:=HG1.out.trans p2;have HP:=zH p3;clear p2 p3))
 go_wp2_with fail;go_ret;obtain⟨A',a1,a2,a3,a4,a5⟩:=p1.sweepPut _ _ HP.out;exact⟨rfl,A',a1,a3,q5.trans a4,a5,fun hc=>hc.keep a2 rfl (q5.trans a4)⟩
end Go.Proofs.YtmgghljjjpcgkaaGreat.Em
