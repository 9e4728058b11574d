import Derived.Test.YtiimlopcifljeaaGreatDoorQk6
namespace Go.Proofs.YtiimlopcifljeaaGreatDoor.Em
open Go.ChangeShapes Go.WideShapes Go.ChangeAt Go.RowKit En
set_option linter.unusedVariables false
set_option linter.unusedSimpArgs false
set_option maxRecDepth 100000
set_option maxHeartbeats 1600000
theorem own_at {w:World} {e:TypeId} {n size:Nat} {v:Value} {xs:List Value} (h:w.ownsRow 0 e size v n xs) {j:Nat} {u:Value} (hj:xs[j]? =some u):∃ g cap,v=.slice (some ⟨g,0,none⟩) n cap∧w.cell? ⟨g,j,none⟩=some u:=by
 have hc:=fun g hg=>h.cells (g:=g) hg
 rcases h.2 with ⟨rfl,h0⟩|⟨g,cap,cur,rfl,hb,hg,hnc,hcm,hcs,htake⟩
 · have h1:=h.1
   rw[h0] at h1;have:xs=[]:=by simpa using h1
   rw[this] at hj;simp at hj
 · refine⟨g,cap,rfl,?_⟩
   have:=hc g rfl j u hj;have hadd:(⟨g,0,none⟩:Addr).add j=⟨g,j,none⟩:=by unfold Addr.add;split<;>simp_all
   rw[hadd] at this;exact this
theorem readCs_get (l:List (Nat×Nat×Bool)) (i:Nat) (h:i<l.length):(readCs l)[3*i]? =some (i64 (l.getD i (0,0,false)).1)∧(readCs l)[3*i+1]? =some (u64 (l.getD i (0,0,false)).2.1)∧(readCs l)[3*i+2]? =some (.bool (l.getD i (0,0,false)).2.2):=by
 induction l generalizing i with
 |nil=>simp at h
 |cons x l ih=>
  cases i with
  |zero=>simp[readCs]
  |succ i=>
   have:=ih i (by simpa using h);simp only[readCs,List.flatMap_cons] at this ⊢;have e:∀ k,([i64 x.1,u64 x.2.1,.bool x.2.2]++List.flatMap (fun r=>[i64 r.1,u64 r.2.1,.bool r.2.2]) l)[3*(i+1)+k]? =(List.flatMap (fun r=>[i64 r.1,u64 r.2.1,.bool r.2.2]) l)[3*i+k]? :=by
    intro k;rw[List.getElem?_append_right (by simp;omega)]
    congr 1
    simp;omega
   have e0:=e 0;simp only[Nat.add_zero] at e0;rw[e0,e 1,e 2];exact this
theorem judge_step (t:Txn) (i:Nat) (h:i<t.reads.length) (hn:t.needs (t.reads.getD i (0,0,false))=false):judgeK t i=judgeK t (i+1):=by
 unfold judgeK;have e:t.reads.length - i=(t.reads.length - (i+1))+1:=by omega
 have k:t.need (t.reads.length - i) i=t.need (t.reads.length - (i+1)) (i+1):=by
  rw[e];show (if i<t.reads.length∧t.needs (t.reads.getD i (0,0,false))=false then _ else _)=_;rw[if_pos ⟨h,hn⟩]
 rw[k]
theorem need_stop (t:Txn) (n i:Nat) (h:¬ (i<t.reads.length∧t.needs (t.reads.getD i (0,0,false))=false)):t.need n i=i:=by
 cases n with
 |zero=>rfl
 |succ n=>
  show (if i<t.reads.length∧t.needs (t.reads.getD i (0,0,false))=false then _ else _)=_;rw[if_neg h]
theorem judge_end (t:Txn):judgeK t t.reads.length=waitK t 0:=by
 unfold judgeK;rw[need_stop _ _ _ (by omega),if_pos rfl]
theorem judge_find (t:Txn) (i:Nat) (h:i<t.reads.length) (hn:t.needs (t.reads.getD i (0,0,false))=true):judgeK t i=.start ⟨(t.reads.getD i (0,0,false)).1,t.end_,.judge i (t.reads.getD i (0,0,false)).2.1⟩:=by
 unfold judgeK;rw[need_stop _ _ _ (fun h=>by rw[hn] at h;exact absurd h.2 (by simp)),if_neg (by omega)]
theorem judge_any {A:Book} {σ:St} {w:World} (hR:Rep A σ w) (s:Nat) (t:Txn) (ht:σ.txns.getD s none=some t) (i0:Nat) (hi0:i0≤t.reads.length) (hrl:t.reads.length<1000000):
 Calls Tryz.prog 204 #[.pointer (some ⟨A.be,0,none⟩),.pointer (some ⟨A.bt s,0,none⟩),.pointer (some ⟨A.bc s,0,none⟩),zi (i0:Int)] w (Tells A w s (σ,judgeK t i0)):=by
 obtain⟨r4,g4,f0,f1,f2,f3⟩:=allocs4 hR #[.pointer (some ⟨A.be,0,none⟩)] 85 #[.pointer (some ⟨A.bt s,0,none⟩)] 123 #[.pointer (some ⟨A.bc s,0,none⟩)] 125 #[zi (i0:Int)] 3;have HR:=zH (zA r4 (zA g4 (zA f0 (zA f1 (zA f2 f3)))));have HT:=zH (zA ht (zA hi0 hrl));have HW:=zH hR;have hown:=hR.mem.all (.reads s);rw[mem_reads ht] at hown;obtain⟨av,capv,hv,_⟩:=Ow.own_form hown.1;have HV:=zH hv;clear hR ht hi0 hrl r4 g4 f0 f1 f2 f3 hown hv;go_enter Tryz.func204,Tryz.ntmps204;go_wp2_with fail
 go_loopw [10] (fun _ wr=>∃ i:Nat,i≤t.reads.length∧judgeK t i0=judgeK t i∧Rep A σ wr∧Grow A.L w A.L wr∧Fix A.L wr w.heap.size (.cells #[.pointer (some ⟨A.be,0,none⟩)] 85)∧Fix A.L wr (w.heap.size+1) (.cells #[.pointer (some ⟨A.bt s,0,none⟩)] 123)∧Fix A.L wr (w.heap.size+1+1) (.cells #[.pointer (some ⟨A.bc s,0,none⟩)] 125)∧Fix A.L wr (w.heap.size+1+1+1) (.cells #[zi (i:Int)] 3)) (fun _ wr=>match wr.cell? ⟨w.heap.size+1+1+1,0,none⟩ with|some (.int _ i)=>((t.reads.length:Int) - i).toNat|_=>0)
 case atStart=>
  obtain⟨r4,g4,f0,f1,f2,f3⟩:=HR.out;exact⟨i0,HT.out.2.1,rfl,r4,g4,f0,f1,f2,f3⟩
 case round=>
  obtain⟨i,hi,hj,r,g,f0,f1,f2,f3⟩:=hrel;have c0:=f0.cell 0 (v:=.pointer (some ⟨A.be,0,none⟩)) rfl;have c1:=f1.cell 0 (v:=.pointer (some ⟨A.bt s,0,none⟩)) rfl;have c2:=f2.cell 0 (v:=.pointer (some ⟨A.bc s,0,none⟩)) rfl;have c3:=f3.cell 0 (v:=zi (i:Int)) rfl;have t8:=r.txn HT.out.1 8 (v:=A.vreads s) rfl;have hbase:(wr.cell? ⟨w.heap.size+1+1+1,0,none⟩)=some (zi (i:Int)):=c3;rw[HV.out] at t8
  by_cases hlt:i<t.reads.length
  · have hown:=r.mem.all (.reads s)
    rw[mem_reads HT.out.1] at hown;obtain⟨e0,e1,e2⟩:=readCs_get t.reads i hlt;obtain⟨g0,cap0,hv0,k0⟩:=own_at hown.1 e0;obtain⟨g1,cap1,hv1,k1⟩:=own_at hown.1 e1;obtain⟨g2,cap2,hv2,k2⟩:=own_at hown.1 e2;rw[hv0] at hv1 hv2;obtain rfl:g0=g1:=by simp at hv1;exact hv1.1
    obtain rfl:g0=g2:=by simp at hv2;exact hv2.1
    rw[HV.out] at hv0;obtain⟨rfl,rfl⟩:av=some ⟨g0,0,none⟩∧capv=cap0:=by simpa using hv0
    have HK:Hid (∀ w',Rep A σ w'→Grow A.L wr A.L w'→w'.cell? ⟨w.heap.size+1,0,none⟩=some (.pointer (some ⟨A.bt s,0,none⟩))∧w'.cell? ⟨w.heap.size+1+1+1,0,none⟩=some (zi (i:Int))∧w'.cell? ⟨A.bt s,8,none⟩=some (.slice (some ⟨g0,0,none⟩) t.reads.length capv)∧w'.cell? ⟨g0,3*i,none⟩=some (zi ((t.reads.getD i (0,0,false)).1:Int))∧w'.cell? ⟨g0,3*i+1,none⟩=some (zu ((t.reads.getD i (0,0,false)).2.1:Int))∧w'.cell? ⟨g0,3*i+2,none⟩=some (.bool (t.reads.getD i (0,0,false)).2.2)):=by
     intro w' r' g';have hown':=r'.mem.all (.reads s);rw[mem_reads HT.out.1] at hown';obtain⟨_,_,hv0',k0'⟩:=own_at hown'.1 e0;obtain⟨_,_,hv1',k1'⟩:=own_at hown'.1 e1;obtain⟨_,_,hv2',k2'⟩:=own_at hown'.1 e2;rw[HV.out] at hv0' hv1' hv2';simp at hv0' hv1' hv2';rw[←hv0'.1] at k0';rw[←hv1'.1] at k1';rw[←hv2'.1] at k2';have t8':=r'.txn HT.out.1 8 (v:=A.vreads s) rfl;rw[HV.out] at t8';exact⟨(f1.grow g').cell 0 rfl,(f3.grow g').cell 0 rfl,t8',k0',k1',k2'⟩
    have HN:=zH (fun w' (q:Rep A σ w')=>needs_any q s t HT.out.1 (t.reads.getD i (0,0,false)).1 (t.reads.getD i (0,0,false)).2.1 (t.reads.getD i (0,0,false)).2.2);have HS:Hid (t.needs (t.reads.getD i (0,0,false))=false→judgeK t i=judgeK t (i+1)):=judge_step t i hlt;have HFI:Hid (t.needs (t.reads.getD i (0,0,false))=true→judgeK t i=.start ⟨(t.reads.getD i (0,0,false)).1,t.end_,.judge i (t.reads.getD i (0,0,false)).2.1⟩):=judge_find t i hlt;have HQ:=zH (zA hj (zA r (zA g (zA hlt (zA f0 (zA f1 (zA f2 f3)))))));have HRd:Hid (Rep A σ wr.drew):=r.drew;have HG:Hid (Grow A.L wr A.L wr.drew):=Grow.drew _ _;have b1:decide ((i:Int)<(t.reads.length:Int))=true:=by simpa using hlt
    have b2:decide (i<t.reads.length)=true:=by simpa using hlt
    have b3:((i:Int)<(t.reads.length:Int))=True:=by simpa using hlt
    have n1:IntKind.i64.wrap ((i:Int)+1)=(i:Int)+1:=by rw[IntKind.wrap_i64];have:=HT.out.2.2;omega
    rw[Nat.mul_comm 3] at k0 k1 k2 HK;clear hj r g hi f0 f1 f2 f3 hown e0 e1 e2 hv0 hv1 hv2;generalize hnb:t.needs (t.reads.getD i (0,0,false))=nb at*;generalize (t.reads.getD i (0,0,false)).1=key at*;generalize (t.reads.getD i (0,0,false)).2.1=link at*;generalize (t.reads.getD i (0,0,false)).2.2=got at*;clear hnb
    cases nb with
    |false=>
     clear HFI;go_wp2_with fail
     go_region_held3 (fun w'=>w'.cell? ⟨w.heap.size+1,0,none⟩=some (.pointer (some ⟨A.bt s,0,none⟩))∧w'.cell? ⟨w.heap.size+1+1+1,0,none⟩=some (zi (i:Int))∧w'.cell? ⟨A.bt s,8,none⟩=some (.slice (some ⟨g0,0,none⟩) t.reads.length capv)∧w'.cell? ⟨g0,i*3,none⟩=some (zi (key:Int))∧w'.cell? ⟨g0,i*3+1,none⟩=some (zu (link:Int))∧w'.cell? ⟨g0,i*3+2,none⟩=some (.bool got))
      (first|exact⟨c1,c3,t8,k0,k1,k2⟩|assumption|exact HK.out _ (by assumption) (by assumption))
      (first|(go_at_call 242;refine (HN.out _ HRd.out).mono ?_;rintro e w1 ⟨rfl,hb⟩;have q1:=HRd.out.below hb;have q2:=HG.out.trans (Grow.below (L:=A.L) hb)))
     obtain⟨hj,r,g,hlt,f0,f1,f2,f3⟩:=HQ.out;have F3:=f3.grow q2;have y3:=F3.cell 0 (v:=zi (i:Int)) rfl;have z3:=F3.frozen 0;obtain⟨r5,g5⟩:=HW.out.setNew q1 (g.trans q2) rfl rfl (a:=⟨w.heap.size+1+1+1,0,none⟩) (by simp;omega) F3.1 (zi ((i:Int)+1));have F0:=(f0.grow q2).setOther (a:=⟨w.heap.size+1+1+1,0,none⟩) (by simp<;>omega) (zi ((i:Int)+1));have F1:=(f1.grow q2).setOther (a:=⟨w.heap.size+1+1+1,0,none⟩) (by simp<;>omega) (zi ((i:Int)+1));have F2:=(f2.grow q2).setOther (a:=⟨w.heap.size+1+1+1,0,none⟩) (by simp<;>omega) (zi ((i:Int)+1));have HZ:=zH (zA r5 (zA g5 (zA F0 (zA F1 (zA F2 (F3.setSame (zi ((i:Int)+1))))))));have HB:=zH hbase;clear hj r g hlt f0 f1 f2 f3 F3 r5 g5 F0 F1 F2 hbase;go_wp2_with fail
     go_roundw
     case rel=>
      obtain⟨r5,g5,F0,F1,F2,F3⟩:=HZ.out;exact⟨i+1,by have:=HQ.out.2.2.2.1;omega,HQ.out.1.trans (HS.out trivial),r5,g5,F0,F1,F2,F3⟩
     case measure=>
      rw[HB.out,(HZ.out.2.2.2.2.2).cell 0 (v:=zi ((i:Int)+1)) rfl];have:=HQ.out.2.2.2.1;simp;omega
    |true=>
     clear HS;go_wp2_with fail
     go_region_held3 (fun w'=>w'.cell? ⟨w.heap.size+1,0,none⟩=some (.pointer (some ⟨A.bt s,0,none⟩))∧w'.cell? ⟨w.heap.size+1+1+1,0,none⟩=some (zi (i:Int))∧w'.cell? ⟨A.bt s,8,none⟩=some (.slice (some ⟨g0,0,none⟩) t.reads.length capv)∧w'.cell? ⟨g0,i*3,none⟩=some (zi (key:Int))∧w'.cell? ⟨g0,i*3+1,none⟩=some (zu (link:Int))∧w'.cell? ⟨g0,i*3+2,none⟩=some (.bool got))
      (first|exact⟨c1,c3,t8,k0,k1,k2⟩|assumption|exact HK.out _ (by assumption) (by assumption))
      (first|(go_at_call 242;refine (HN.out _ HRd.out).mono ?_;rintro e w1 ⟨rfl,hb⟩;have q1:=HRd.out.below hb;have q2:=HG.out.trans (Grow.below (L:=A.L) hb)))
     obtain⟨hj,r,g,hlt,f0,f1,f2,f3⟩:=HQ.out;have HX:Hid (∀ n w5,w1.drewN n=w5→Rep A σ w5∧Grow A.L w A.L w5∧Grow A.L wr A.L w5∧w5.cell? ⟨w.heap.size+1,0,none⟩=some (.pointer (some ⟨A.bt s,0,none⟩))∧w5.cell? ⟨w.heap.size+1+1+1,0,none⟩=some (zi (i:Int))∧w5.cell? ⟨A.bt s,8,none⟩=some (.slice (some ⟨g0,0,none⟩) t.reads.length capv)∧w5.cell? ⟨g0,i*3,none⟩=some (zi (key:Int))∧w5.cell? ⟨g0,i*3+1,none⟩=some (zu (link:Int))∧w5.cell? ⟨g0,i*3+2,none⟩=some (.bool got)):=by
      rintro n w5 rfl;obtain⟨x1,x2,x3,x4,x5,x6⟩:=HK.out _ (q1.drewN n) (q2.trans (Grow.drewN _ _ n));exact⟨q1.drewN n,(g.trans q2).trans (Grow.drewN _ _ n),q2.trans (Grow.drewN _ _ n),x1,x2,x3,x4,x5,x6⟩
     have d1:((i:Int)==(t.reads.length:Int))=false:=by simp;omega
     have d2:(i==t.reads.length)=false:=by simp;omega
     have d3:((i:Int)=(t.reads.length:Int))=False:=by simp;omega
     obtain⟨_,_,_,x1,x2,x3,_⟩:=HX.out 0 w1 rfl;have HP:=zH (zA q1 q2);clear hj r g hlt f0 f1 f2 f3 q1 q2 c0 c1 c2 c3 t8 k0 k1 k2 hbase;go_wp2_with fail
     go_quiet (fail)
     generalize hw5:w1.drewN _=w5;obtain⟨r5,g5,gr5,x1,x2,x3,x4,x5,x6⟩:=HX.out _ w5 hw5;obtain⟨y1,y2,y3,y4,y5,y6⟩:=HK.out (w5.alloc (.cells #[zi 0,zu 0,.bool false] 359)) (r5.alloc _) (gr5.trans (Grow.alloc _ _ _));have H5:=zH (zA r5 (zA g5 gr5));clear r5 g5 gr5 hw5;go_wp2_with fail
     go_region
     generalize hw6:(w5.alloc _).drew=w6;obtain⟨_,_,_,hlt,f0,f1,f2,f3⟩:=HQ.out;obtain⟨r7,g7,f4⟩:=allocs1 H5.out.1 #[zi (key:Int),zu (link:Int),.bool got] 359;have g56:Grow A.L w5 A.L w6:=by rw[←hw6];exact g7.trans (Grow.drew _ _)
     have r6:Rep A σ w6:=by rw[←hw6];exact r7.drew
     have F4:Fix A.L w6 w5.heap.size (.cells #[zi (key:Int),zu (link:Int),.bool got] 359):=by rw[←hw6];exact f4.grow (Grow.drew _ _)
     have gq:=(H5.out.2.2).trans g56;have F0:=f0.grow gq;have F1:=f1.grow gq;have F2:=f2.grow gq;have F3:=f3.grow gq;have y0:=F0.cell 0 (v:=.pointer (some ⟨A.be,0,none⟩)) rfl;have y1:=F1.cell 0 (v:=.pointer (some ⟨A.bt s,0,none⟩)) rfl;have y4:=F4.cell 0 (v:=zi (key:Int)) rfl;have yt:=r6.txn HT.out.1 4 (v:=zu (t.end_:Int)) rfl;have gd:=Grow.drew A.L w6;have hf:=find_any r6.drew s key t.end_ (.func (.func 244) #[] #[.pointer (some ⟨w5.heap.size,0,none⟩),.pointer (some ⟨w.heap.size,0,none⟩),.pointer (some ⟨w.heap.size+1,0,none⟩),.pointer (some ⟨w.heap.size+1+1,0,none⟩),.pointer (some ⟨w.heap.size+1+1+1,0,none⟩)]) (.judge i link) ⟨_,_,_,_,_,rfl,⟨_,_,_,F4.grow gd⟩,F0.box.grow gd,F1.box.grow gd,F2.box.grow gd,F3.box.grow gd⟩;have HE:=zH (zA hf ((H5.out.2.1.trans g56).trans gd));clear hlt f0 f1 f2 f3 r7 g7 f4 g56 r6 F4 gq F0 F1 F2 F3 gd hf hw6 x1 x2 x3 x4 x5 x6;go_wp2_with fail;refine wp_region_still_tail 9 (by kernel_rfl) (by kernel_rfl) ?_;simp only[zta,ztb,ztc,ztd]
     repeat still_step
     refine wpStill_nil ?_;change wpList _ _ _ _ _ w6.drew;generalize w6.drew=wd at*;go_wp2_with (go_at_call 196;refine HE.out.1.mono ?_;rintro e w2 ⟨A2,v,rfl,p1,p2,p3,p4⟩);go_ret;rw[HQ.out.1,HFI.out trivial];exact⟨A2,v,rfl,p1,HE.out.2.trans p2,p3,p4⟩
  · obtain rfl:i=t.reads.length:=by omega
    have HQ:=zH (zA hj (zA r g));have HA:Hid (∀ w',Rep A σ w'→Calls Tryz.prog 243 #[.pointer (some ⟨A.be,0,none⟩),.pointer (some ⟨A.bt s,0,none⟩),.pointer (some ⟨A.bc s,0,none⟩),zi 0] w' (Tells A w' s (σ,waitK t 0))):=fun w' q=>wait_any q s t HT.out.1 0
    have HJ:=zH (judge_end t);clear hj r g hi hlt f0 f1 f2 f3;generalize t.reads.length=n at*;have d1:decide ((n:Int)<(n:Int))=false:=by simp
    go_wp2_with fail
    go_quiet (fail)
    generalize hw5:wr.drewN _=w5;have c0:w5.cell? ⟨w.heap.size,0,none⟩=some (.pointer (some ⟨A.be,0,none⟩)):=by rw[←hw5];exact c0
    have c1:w5.cell? ⟨w.heap.size+1,0,none⟩=some (.pointer (some ⟨A.bt s,0,none⟩)):=by rw[←hw5];exact c1
    have c2:w5.cell? ⟨w.heap.size+1+1,0,none⟩=some (.pointer (some ⟨A.bc s,0,none⟩)):=by rw[←hw5];exact c2
    have c3:w5.cell? ⟨w.heap.size+1+1+1,0,none⟩=some (zi (n:Int)):=by rw[←hw5];exact c3
    have t8:w5.cell? ⟨A.bt s,8,none⟩=some (.slice av n capv):=by rw[←hw5];exact t8
    have r5:Rep A σ w5:=by rw[←hw5];exact HQ.out.2.1.drewN _
    have g5:Grow A.L w A.L w5:=by rw[←hw5];exact HQ.out.2.2.trans (Grow.drewN _ _ _)
    have H5:=zH (zA r5 g5);clear r5 g5 hw5;go_wp2_with fail
    go_quiet (fail)
    go_wp2_with (go_at_call 243;refine (HA.out _ (H5.out.1.drewN _)).mono ?_;rintro e w2 ⟨A2,v,rfl,p1,p2,p3,p4⟩);go_ret;rw[HQ.out.1,HJ.out];exact⟨A2,v,rfl,p1,(H5.out.2.trans (Grow.drewN _ _ _)).trans p2,p3,p4⟩
end Go.Proofs.YtiimlopcifljeaaGreatDoor.Em
