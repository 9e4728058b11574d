import Derived.Test.YthicolbbmjfkfaaGreatQh7
set_option linter.unusedVariables false
set_option linter.unusedSimpArgs false
set_option maxRecDepth 100000
set_option maxHeartbeats 1600000
namespace Go.Proofs.YthicolbbmjfkfaaGreat.Em
open Go.ChangeShapes Go.WideShapes Go.ChangeAt Go.RowKit En
variable {A:au} {D:St} {w:World}
theorem rX (h:aD A D w) (i o n:Nat) (z:Int) (hz:z=(i:Int)) (hi:i<D.words.length) (hc:D.count<4000000000000000000):
 zk 45 #[R A.ba 0,I z,zu o,zu n] w (FD A w (D.bP i o n) (.bool (D.word i==o))):=by subst hz;exact oN h i o n hi hc
theorem Gp (l:List (Nat×jr)) (E:Nat) (x y:jr) (h:l.lookup E=none):upd ((E,x)::l) E y=(E,y)::l:=by
 have h1:=nV h;unfold upd;simp only[List.map_cons,if_true]
 congr 1
 conv=>rhs;rw[<-List.map_id l]
 refine List.map_congr_left fun p hp=>?_
 simp[h1 p hp]
theorem qC {D:St} {s:Nat} {t:bB} (ht:D.ag.getD s none=some t) (E:Nat) (x y:jr) (hx:t.cell E=none):
 (D.bF s E x).bq s {(D.bF s E x).t s with cells:=upd ((D.bF s E x).t s).cells E y}=D.bF s E y:=by
 have e:(D.bF s E x).t s={t with cells:=(E,x)::t.cells,keys:=t.keys++[E]}:=by
  refine bQ ?_;unfold St.bF;rw[bQ ht,cO (cz ht),aV rfl]
 rw[e];unfold St.bF St.bq;simp only[bQ ht,List.set_set];rw[Gp _ _ _ _ hx]
theorem rY {D:St} {s:Nat} {t:bB} (ht:D.ag.getD s none=some t) (E:Nat) (x:jr):(D.bF s E x).ag.getD s none=some {t with cells:=(E,x)::t.cells,keys:=t.keys++[E]}:=by
 unfold St.bF;rw[bQ ht,cO (cz ht),aV rfl]
theorem yl (hR:aD A D w) (s:Nat) (t:bB) (ht:D.ag.getD s none=some t) (c:dF) (hc:D.calls.getD s none=some c) (F head:Nat) (V:c.op.E<64) (hx:t.cell c.op.E=none) (hkl:t.keys.length<1000000) (aQ:D.count<4000000000000000000) (b0 b1 b2 b3 b4:Nat)
 (B0:aK A.L w b0 (R A.Y 0)) (B1:aK A.L w b1 (R (A.bc s) 0)) (B2:aK A.L w b2 (zu head)) (B3:aK A.L w b3 (zu F)) (B4:aK A.L w b4 (R (A.bt s) 0)) (hm:D.word (9+c.op.E)≠head):
 zk 191 #[R b0 0,R b1 0,R b2 0,R b3 0,R b4 0] w (jO A w s (D.run s (.dC F head))):=by
 have c0:=B0.cell;have c1:=B1.cell;have c2:=B2.cell;have c3:=B3.cell;have e2:=hR.z2;have k1:w.cell? (J (A.bc s) 1)=zt c.op.E:=hR.call hc 1 rfl;have n1:IntKind.i64.wrap (9+(c.op.E:Int))=9+(c.op.E:Int):=by rw[jH];omega
 have HL:=U (rX hR.drew (9+c.op.E) head F (9+(c.op.E:Int)) (by omega) (by rw[hR.nw];omega) aQ);have HG:=zG A.L w;have aN:D.run s (.dC F head)=(D.tick,some (.fresh F)):=by simp[St.run,aU hc,St.bP,hm]
 rw[aN];have Z:(D.word (9+c.op.E)==head)=false:=by simpa using hm
 have hcs:D.bP (9+c.op.E) head F=D.tick:=aX hm;rw[Z,hcs] at HL;have HB:Hid (∀ H,aD A D.tick H->Grow A.L w A.L H->zk 131 #[R A.Y 0,R (A.bt s) 0,R (A.bc s) 0,zu F] H (aZ A H s (D.tick,.fresh F))∧zS H b0 0 A.Y 0∧zS H b1 0 (A.bc s) 0∧zV H b3 0 F∧zS H b4 0 (A.bt s) 0):=
  fun H q g=>⟨wJ q s F,(B0.grow g).cell,(B1.grow g).cell,(B3.grow g).cell,(B4.grow g).cell⟩
 clear hR ht hc V hx hkl aQ B0 B1 B2 B3 B4 hm aN Z hcs;generalize c.op.E=E at*;go_enter Tryz.func191,Tryz.ntmps191;go_wp2_with fail;refine wp_region_still_tail 12 (by kernel_rfl) (by kernel_rfl) ?_;simp only[jk,jl,jm,jo]
 repeat still_step
 refine wpStill_nil ?_;change wpList _ _ _ _ _ w.drew;generalize w.drew=wd at*;go_wp2_with (first|(go_at_call 45;refine HL.out.mono ?_;rintro e H ⟨rfl,q1,q2⟩;have g1:=HG.out.trans q2;obtain⟨hf,d0,d1,d3,d4⟩:=HB.out H q1 g1;have HQ:=U (zA hf g1);clear q1 q2 g1 hf)|(go_at_call 131;refine HQ.out.1.mono ?_;rintro e w2 ⟨A2,v,rfl,p1,p2,p3,p4⟩));go_ret;exact⟨A2,v,rfl,p1,HQ.out.2.trans p2,p3,p4⟩
theorem Ac (hR:aD A D w) (s:Nat) (t:bB) (ht:D.ag.getD s none=some t) (c:dF) (hc:D.calls.getD s none=some c) (F head:Nat) (V:c.op.E<64) (hx:t.cell c.op.E=none) (hkl:t.keys.length<1000000) (aQ:D.count<4000000000000000000) (b0 b1 b2 b3 b4:Nat)
 (B0:aK A.L w b0 (R A.Y 0)) (B1:aK A.L w b1 (R (A.bc s) 0)) (B2:aK A.L w b2 (zu head)) (B3:aK A.L w b3 (zu F)) (B4:aK A.L w b4 (R (A.bt s) 0)) (hm:D.word (9+c.op.E)=head):
 zk 191 #[R b0 0,R b1 0,R b2 0,R b3 0,R b4 0] w (jO A w s (D.run s (.dC F head))):=by
 have c0:=B0.cell;have c1:=B1.cell;have c2:=B2.cell;have c3:=B3.cell;have e2:=hR.z2;have k1:w.cell? (J (A.bc s) 1)=zt c.op.E:=hR.call hc 1 rfl;have n1:IntKind.i64.wrap (9+(c.op.E:Int))=9+(c.op.E:Int):=by rw[jH];omega
 have HL:=U (rX hR.drew (9+c.op.E) head F (9+(c.op.E:Int)) (by omega) (by rw[hR.nw];omega) aQ);have HG:=zG A.L w;have aN:D.run s (.dC F head)=((D.put (9+c.op.E) F).bF s c.op.E ⟨F,0,true⟩,some (.fin {})):=by simp[St.run,aU hc,St.bP,hm]
 rw[aN];have Z:(D.word (9+c.op.E)==head)=true:=by simpa using hm
 have hcs:D.bP (9+c.op.E) head F=D.put (9+c.op.E) F:=aV hm;rw[Z,hcs] at HL;have HB:Hid (∀ H,aD A (D.put (9+c.op.E) F) H->Grow A.L w A.L H->zk 177 #[R (A.bt s) 0,I c.op.E,zu 0] H.drew (LP A H.drew s c.op.E ((D.put (9+c.op.E) F).bF s c.op.E ⟨0,0,false⟩))∧zS H b1 0 (A.bc s) 0∧zS H b4 0 (A.bt s) 0∧zT H (A.bc s) 1 c.op.E):=
  fun H q g=>⟨uj q.drew s t ht c.op.E 0 hx hkl,(B1.grow g).cell,(B4.grow g).cell,q.call hc 1 rfl⟩
 have HE : Hid (∀ H w2 A1 b, Grow A.L w A.L H -> aD A1 ((D.put (9 + c.op.E) F).bF s c.op.E ⟨0, 0, false⟩) w2 -> Grow A.L H A1.L w2 -> bL A A1 s -> A1.bx s c.op.E = b -> A1.aR = A.aR ->
     zV w2 b 0 0∧w2.frozen? (J b 0)=false∧zB w2 b 2 false∧w2.frozen? (J b 2)=false∧zV w2 b3 0 F∧
     ((w2.setCell (J b 0) (zu F)).setCell (J b 2) (.bool true)).cell? (J b0 0)=zs A.Y 0∧((w2.setCell (J b 0) (zu F)).setCell (J b 2) (.bool true)).cell? (J b1 0)=zs (A.bc s) 0∧
     zk 113 #[R A.Y 0,R (A.bc s) 0,.agg #[I 0,I 0,.slice none 0 0,I 0,I 0]] ((w2.setCell (J b 0) (zu F)).setCell (J b 2) (.bool true)) (aZ A1 ((w2.setCell (J b 0) (zu F)).setCell (J b 2) (.bool true)) s ((D.put (9+c.op.E) F).bF s c.op.E ⟨F,0,true⟩,.fin {}))∧
     Grow A.L w A1.L ((w2.setCell (J b 0) (zu F)).setCell (J b 2) (.bool true))):=by
  intro H w2 A1 b g1 r2 g2 st hbx hvp;have ht1:(D.put (9+c.op.E) F).ag.getD s none=some t:=ht;have ht2:=rY ht1 c.op.E ⟨0,0,false⟩;have hx2:({t with cells:=(c.op.E,(⟨0,0,false⟩:jr))::t.cells,keys:=t.keys++[c.op.E]}:bB).cell c.op.E=some ⟨0,0,false⟩:=by simp[bB.cell,List.lookup]
  obtain⟨a0,a1,a2⟩:=r2.BS ht2 hx2;have z0:=r2.Es ht2 hx2 0;have z2:=r2.Es ht2 hx2 2;obtain⟨r3,g3⟩:=r2.qY ht2 hx2 ⟨F,0,false⟩ 0 (zu F) rfl;have e3:=qC ht1 c.op.E ⟨0,0,false⟩ ⟨F,0,false⟩ hx;rw[bQ ht2] at e3;rw[e3] at r3;have ht3:=rY ht1 c.op.E ⟨F,0,false⟩;have hx3:({t with cells:=(c.op.E,(⟨F,0,false⟩:jr))::t.cells,keys:=t.keys++[c.op.E]}:bB).cell c.op.E=some ⟨F,0,false⟩:=by simp[bB.cell,List.lookup]
  obtain⟨r4,g4⟩:=r3.qY ht3 hx3 ⟨F,0,true⟩ 2 (.bool true) rfl;have e4:=qC ht1 c.op.E ⟨F,0,false⟩ ⟨F,0,true⟩ hx;rw[bQ ht3] at e4;rw[e4] at r4;rw[hbx] at a0 a2 z0 z2 g3 r4 g4;have g5:=((g1.trans g2).trans g3).trans g4;have he:=iE r4 s {} 0 0 0 0 (.slice none 0 0) rfl (.inr ⟨rfl,rfl⟩);rw[st.Y,st.bc] at he;exact⟨a0,z0,a2,z2,(B3.grow (g1.trans g2)).cell,(B0.grow g5).cell,(B1.grow g5).cell,he,g5⟩
 clear hR ht hc V hx hkl aQ B0 B1 B2 B3 B4 hm aN Z hcs;generalize (D.put (9+c.op.E) F).bF s c.op.E ⟨0,0,false⟩=aH at*;generalize (D.put (9+c.op.E) F).bF s c.op.E ⟨F,0,true⟩=az at*;generalize c.op.E=E at*;go_enter Tryz.func191,Tryz.ntmps191;go_wp2_with fail;refine wp_region_still_tail 12 (by kernel_rfl) (by kernel_rfl) ?_;simp only[jk,jl,jm,jo]
 repeat still_step
 refine wpStill_nil ?_;change wpList _ _ _ _ _ w.drew;generalize w.drew=wd at*;go_wp2_with (go_at_call 45;refine HL.out.mono ?_;rintro e H ⟨rfl,q1,q2⟩;have g1:=HG.out.trans q2;obtain⟨hf,d1,d4,d5⟩:=HB.out H q1 g1;have HQ:=U (zA hf (g1.trans (Grow.drew _ _)));clear q1 q2 g1 hf);refine wp_region_still_tail 6 (by kernel_rfl) (by kernel_rfl) ?_;simp only[jk,jl,jm,jo]
 repeat still_step
 refine wpStill_nil ?_;change wpList _ _ _ _ _ H.drew;generalize H.drew=Ov at*;go_wp2_with (first|(go_at_call 177;refine HQ.out.1.mono ?_;rintro e w2 ⟨b,rfl,A1,r2,g2,st,hbx,hvp⟩;obtain⟨a0,z0,a2,z2,d3,y0,y1,he,g5⟩:=HE.out _ w2 A1 b HQ.out.2 r2 g2 st hbx hvp;have HZ:=U (zA he (zA g5 st));clear r2 g2 st hbx hvp he g5)|(go_at_call 113;refine HZ.out.1.mono ?_;rintro e w3 ⟨A2,v,rfl,p1,p2,p3,p4⟩));go_ret;exact⟨A2,v,rfl,p1,HZ.out.2.1.trans p2,HZ.out.2.2.trans p3,p4⟩
theorem Js (hR:aD A D w) (s:Nat) (t:bB) (ht:D.ag.getD s none=some t) (c:dF) (hc:D.calls.getD s none=some c) (F head:Nat) (V:c.op.E<64) (hx:t.cell c.op.E=none) (hkl:t.keys.length<1000000) (aQ:D.count<4000000000000000000) (b0 b1 b2 b3 b4:Nat)
 (B0:aK A.L w b0 (R A.Y 0)) (B1:aK A.L w b1 (R (A.bc s) 0)) (B2:aK A.L w b2 (zu head)) (B3:aK A.L w b3 (zu F)) (B4:aK A.L w b4 (R (A.bt s) 0)):
 zk 191 #[R b0 0,R b1 0,R b2 0,R b3 0,R b4 0] w (jO A w s (D.run s (.dC F head))):=by
 by_cases hm:D.word (9+c.op.E)=head
 . exact Ac hR s t ht c hc F head V hx hkl aQ b0 b1 b2 b3 b4 B0 B1 B2 B3 B4 hm
 . exact yl hR s t ht c hc F head V hx hkl aQ b0 b1 b2 b3 b4 B0 B1 B2 B3 B4 hm
theorem jQ {w:World} {e:TypeId} {n size:Nat} {v:Value} {xs:List Value} (h:w.ownsRow 0 e size v n xs) {j:Nat} {u:Value} (hj:xs[j]? =some u):∃ g cap,v=.slice (some (J g 0)) n cap∧w.cell? (J g j)=some u:=by
 have hc:=fun g hg=>h.cells (g:=g) hg
 rcases h.2 with ⟨rfl,h0⟩|⟨g,cap,cur,rfl,Z,hg,hnc,hcm,hcs,htake⟩
 . have h1:=h.1
   rw[h0] at h1;have:xs=[]:=by simpa using h1
   rw[this] at hj;simp at hj
 . refine⟨g,cap,rfl,?_⟩
   have:=hc g rfl j u hj;have hadd:((J g 0):Addr).add j=(J g j):=by unfold Addr.add;split<;>simp_all
   rw[hadd] at this;exact this
theorem Cj (l:List (Nat×Nat×Bool)) (i:Nat) (h:i<l.length):(jc l)[3*i]? =some (i64 (l.getD i (0,0,false)).1)∧(jc l)[3*i+1]? =some (u64 (l.getD i (0,0,false)).2.1)∧(jc l)[3*i+2]? =some (.bool (l.getD i (0,0,false)).2.2):=by
 induction l generalizing i with
 |nil=>simp at h
 |cons x l ih=>
  cases i with
  |zero=>simp[jc]
  |succ i=>
   have:=ih i (by simpa using h);simp only[jc,List.flatMap_cons] at this ⊢;have e:∀ k,([i64 x.1,u64 x.2.1,.bool x.2.2]++List.flatMap (fun r=>[i64 r.1,u64 r.2.1,.bool r.2.2]) l)[3*(i+1)+k]? =(List.flatMap (fun r=>[i64 r.1,u64 r.2.1,.bool r.2.2]) l)[3*i+k]? :=by
    intro k;rw[NA (by simp;omega)]
    congr 1
    simp;omega
   have e0:=e 0;simp only[Nat.add_zero] at e0;rw[e0,e 1,e 2];exact this
theorem Ck (t:bB) (i:Nat) (h:i<t.reads.length) (hn:t.needs (t.reads.getD i (0,0,false))=false):dm t i=dm t (i+1):=by
 unfold dm;have e:t.reads.length - i=(t.reads.length - (i+1))+1:=by omega
 have k:t.need (t.reads.length - i) i=t.need (t.reads.length - (i+1)) (i+1):=by
  rw[e];show (if i<t.reads.length∧t.needs (t.reads.getD i (0,0,false))=false then _ else _)=_;rw[aV ⟨h,hn⟩]
 rw[k]
theorem wQ (t:bB) (n i:Nat) (h:¬ (i<t.reads.length∧t.needs (t.reads.getD i (0,0,false))=false)):t.need n i=i:=by
 cases n with
 |zero=>rfl
 |succ n=>
  show (if i<t.reads.length∧t.needs (t.reads.getD i (0,0,false))=false then _ else _)=_;rw[aX h]
theorem EE (t:bB):dm t t.reads.length=iK t 0:=by
 unfold dm;rw[wQ _ _ _ (by omega),aV rfl]
theorem Cm (t:bB) (i:Nat) (h:i<t.reads.length) (hn:t.needs (t.reads.getD i (0,0,false))=true):dm t i=.start ⟨(t.reads.getD i (0,0,false)).1,t.ax,.judge i (t.reads.getD i (0,0,false)).2.1⟩:=by
 unfold dm;rw[wQ _ _ _ (fun h=>by rw[hn] at h;exact absurd h.2 (by simp)),aX (by omega)]
theorem wR (hR:aD A D w) (s:Nat) (t:bB) (ht:D.ag.getD s none=some t) (i0:Nat) (hi0:i0<=t.reads.length) (hrl:t.reads.length<1000000):
 zk 122 #[R A.Y 0,R (A.bt s) 0,R (A.bc s) 0,I i0] w (aZ A w s (D,dm t i0)):=by
 obtain⟨r4,g4,f0,f1,f2,f3⟩:=jB hR #[R A.Y 0] 32 #[R (A.bt s) 0] 100 #[R (A.bc s) 0] 105 #[I i0] 3;have HR:=U (zA r4 (zA g4 (zA f0 (zA f1 (zA f2 f3)))));have HT:=U (zA ht (zA hi0 hrl));have HW:=U hR;have aS:=hR.mem.all (.reads s);rw[mem_reads ht] at aS;obtain⟨av,iJ,hv,_⟩:=Ow.bD aS.1;have HV:=U hv;clear hR ht hi0 hrl r4 g4 f0 f1 f2 f3 aS hv;go_enter Tryz.func122,Tryz.ntmps122;go_wp2_with fail
 go_loopw [10] (fun _ wr=>∃ i:Nat,i<=t.reads.length∧dm t i0=dm t i∧aD A D wr∧Grow A.L w A.L wr∧Fix A.L wr w.heap.size (.cells #[R A.Y 0] 32)∧Fix A.L wr (w.heap.size+1) (.cells #[R (A.bt s) 0] 100)∧Fix A.L wr (w.heap.size+1+1) (.cells #[R (A.bc s) 0] 105)∧Fix A.L wr (w.heap.size+1+1+1) (.cells #[I i] 3)) (fun _ wr=>match wr.cell? ⟨w.heap.size+1+1+1,0,none⟩ with|some (.int _ i)=>((t.reads.length:Int) - i).toNat|_=>0)
 case atStart=>
  obtain⟨r4,g4,f0,f1,f2,f3⟩:=HR.out;exact⟨i0,HT.out.2.1,rfl,r4,g4,f0,f1,f2,f3⟩
 case round=>
  obtain⟨i,hi,hj,r,g,f0,f1,f2,f3⟩:=hrel;have c0:=f0.cell 0 (v:=R A.Y 0) rfl;have c1:=f1.cell 0 (v:=R (A.bt s) 0) rfl;have c2:=f2.cell 0 (v:=R (A.bc s) 0) rfl;have c3:=f3.cell 0 (v:=I i) rfl;have t8:=r.dZ HT.out.1 8 (v:=A.eu s) rfl;have hbase:(wr.cell? ⟨w.heap.size+1+1+1,0,none⟩)=zt i:=c3;rw[HV.out] at t8
  by_cases hlt:i<t.reads.length
  . have aS:=r.mem.all (.reads s)
    rw[mem_reads HT.out.1] at aS;obtain⟨e0,e1,e2⟩:=Cj t.reads i hlt;obtain⟨g0,cap0,hv0,k0⟩:=jQ aS.1 e0;obtain⟨g1,ym,hv1,k1⟩:=jQ aS.1 e1;obtain⟨g2,cap2,hv2,k2⟩:=jQ aS.1 e2;rw[hv0] at hv1 hv2;obtain rfl:g0=g1:=by simp at hv1;exact hv1.1
    obtain rfl:g0=g2:=by simp at hv2;exact hv2.1
    rw[HV.out] at hv0;obtain⟨rfl,rfl⟩:av=za g0 0∧iJ=cap0:=by simpa using hv0
    have HK:Hid (∀ G,aD A D G->Grow A.L wr A.L G->G.cell? ⟨w.heap.size+1,0,none⟩=zs (A.bt s) 0∧G.cell? ⟨w.heap.size+1+1+1,0,none⟩=zt i∧G.cell? (J (A.bt s) 8)=some (.slice (some (J g0 0)) t.reads.length iJ)∧G.cell? ⟨g0,3*i,none⟩=some (I ((t.reads.getD i (0,0,false)).1:Int))∧G.cell? ⟨g0,3*i+1,none⟩=some (zu ((t.reads.getD i (0,0,false)).2.1:Int))∧G.cell? ⟨g0,3*i+2,none⟩=some (.bool (t.reads.getD i (0,0,false)).2.2)):=by
     intro G r' g';have hown':=r'.mem.all (.reads s);rw[mem_reads HT.out.1] at hown';obtain⟨_,_,LV,ND⟩:=jQ hown'.1 e0;obtain⟨_,_,LW,k1'⟩:=jQ hown'.1 e1;obtain⟨_,_,LX,k2'⟩:=jQ hown'.1 e2;rw[HV.out] at LV LW LX;simp at LV LW LX;rw[<-LV.1] at ND;rw[<-LW.1] at k1';rw[<-LX.1] at k2';have SQ:=r'.dZ HT.out.1 8 (v:=A.eu s) rfl;rw[HV.out] at SQ;exact⟨(f1.grow g').cell 0 rfl,(f3.grow g').cell 0 rfl,SQ,ND,k1',k2'⟩
    have HN:=U (fun G (q:aD A D G)=>Ex q s t HT.out.1 (t.reads.getD i (0,0,false)).1 (t.reads.getD i (0,0,false)).2.1 (t.reads.getD i (0,0,false)).2.2);have HS:Hid (t.needs (t.reads.getD i (0,0,false))=false->dm t i=dm t (i+1)):=Ck t i hlt;have SS:Hid (t.needs (t.reads.getD i (0,0,false))=true->dm t i=.start ⟨(t.reads.getD i (0,0,false)).1,t.ax,.judge i (t.reads.getD i (0,0,false)).2.1⟩):=Cm t i hlt;have HQ:=U (zA hj (zA r (zA g (zA hlt (zA f0 (zA f1 (zA f2 f3)))))));have BM:Hid (aD A D wr.drew):=r.drew;have HG:Hid (Grow A.L wr A.L wr.drew):=Grow.drew _ _;have b1:decide ((i:Int)<(t.reads.length:Int))=true:=by simpa using hlt
    have b2:decide (i<t.reads.length)=true:=by simpa using hlt
    have b3:((i:Int)<(t.reads.length:Int))=True:=by simpa using hlt
    have n1:IntKind.i64.wrap ((i:Int)+1)=(i:Int)+1:=by rw[jH];have:=HT.out.2.2;omega
    rw[Nat.mul_comm 3] at k0 k1 k2 HK;clear hj r g hi f0 f1 f2 f3 aS e0 e1 e2 hv0 hv1 hv2;generalize hnb:t.needs (t.reads.getD i (0,0,false))=nb at*;generalize (t.reads.getD i (0,0,false)).1=E at*;generalize (t.reads.getD i (0,0,false)).2.1=F at*;generalize (t.reads.getD i (0,0,false)).2.2=got at*;clear hnb
    cases nb with
    |false=>
     clear SS;go_wp2_with fail
     go_region_held3 (fun G=>G.cell? ⟨w.heap.size+1,0,none⟩=zs (A.bt s) 0∧G.cell? ⟨w.heap.size+1+1+1,0,none⟩=zt i∧G.cell? (J (A.bt s) 8)=some (.slice (some (J g0 0)) t.reads.length iJ)∧G.cell? ⟨g0,i*3,none⟩=zt E∧G.cell? ⟨g0,i*3+1,none⟩=zv F∧G.cell? ⟨g0,i*3+2,none⟩=zb got)
      (first|exact⟨c1,c3,t8,k0,k1,k2⟩|assumption|exact HK.out _ (by assumption) (by assumption))
      (first|(go_at_call 143;refine (HN.out _ BM.out).mono ?_;rintro e H ⟨rfl,Z⟩;have q1:=BM.out.below Z;have q2:=HG.out.trans (Grow.below (L:=A.L) Z)))
     obtain⟨hj,r,g,hlt,f0,f1,f2,f3⟩:=HQ.out;have F3:=f3.grow q2;have y3:=F3.cell 0 (v:=I i) rfl;have z3:=F3.frozen 0;obtain⟨r5,g5⟩:=HW.out.mg q1 (g.trans q2) rfl rfl (a:=⟨w.heap.size+1+1+1,0,none⟩) (by simp;omega) F3.1 (I ((i:Int)+1));have F0:=(f0.grow q2).setOther (a:=⟨w.heap.size+1+1+1,0,none⟩) (by simp<;>omega) (I ((i:Int)+1));have F1:=(f1.grow q2).setOther (a:=⟨w.heap.size+1+1+1,0,none⟩) (by simp<;>omega) (I ((i:Int)+1));have F2:=(f2.grow q2).setOther (a:=⟨w.heap.size+1+1+1,0,none⟩) (by simp<;>omega) (I ((i:Int)+1));have HZ:=U (zA r5 (zA g5 (zA F0 (zA F1 (zA F2 (F3.sU (I ((i:Int)+1))))))));have HB:=U hbase;clear hj r g hlt f0 f1 f2 f3 F3 r5 g5 F0 F1 F2 hbase;go_wp2_with fail
     go_roundw
     case rel=>
      obtain⟨r5,g5,F0,F1,F2,F3⟩:=HZ.out;exact⟨i+1,by have:=HQ.out.2.2.2.1;omega,HQ.out.1.trans (HS.out trivial),r5,g5,F0,F1,F2,F3⟩
     case measure=>
      rw[HB.out,(HZ.out.2.2.2.2.2).cell 0 (v:=I ((i:Int)+1)) rfl];have:=HQ.out.2.2.2.1;simp;omega
    |true=>
     clear HS;go_wp2_with fail
     go_region_held3 (fun G=>G.cell? ⟨w.heap.size+1,0,none⟩=zs (A.bt s) 0∧G.cell? ⟨w.heap.size+1+1+1,0,none⟩=zt i∧G.cell? (J (A.bt s) 8)=some (.slice (some (J g0 0)) t.reads.length iJ)∧G.cell? ⟨g0,i*3,none⟩=zt E∧G.cell? ⟨g0,i*3+1,none⟩=zv F∧G.cell? ⟨g0,i*3+2,none⟩=zb got)
      (first|exact⟨c1,c3,t8,k0,k1,k2⟩|assumption|exact HK.out _ (by assumption) (by assumption))
      (first|(go_at_call 143;refine (HN.out _ BM.out).mono ?_;rintro e H ⟨rfl,Z⟩;have q1:=BM.out.below Z;have q2:=HG.out.trans (Grow.below (L:=A.L) Z)))
     obtain⟨hj,r,g,hlt,f0,f1,f2,f3⟩:=HQ.out;have HX:Hid (∀ n w5,H.drewN n=w5->aD A D w5∧Grow A.L w A.L w5∧Grow A.L wr A.L w5∧w5.cell? ⟨w.heap.size+1,0,none⟩=zs (A.bt s) 0∧w5.cell? ⟨w.heap.size+1+1+1,0,none⟩=zt i∧w5.cell? (J (A.bt s) 8)=some (.slice (some (J g0 0)) t.reads.length iJ)∧w5.cell? ⟨g0,i*3,none⟩=zt E∧w5.cell? ⟨g0,i*3+1,none⟩=zv F∧w5.cell? ⟨g0,i*3+2,none⟩=zb got):=by
      rintro n w5 rfl;obtain⟨x1,x2,x3,x4,x5,x6⟩:=HK.out _ (q1.drewN n) (q2.trans (Grow.drewN _ _ n));exact⟨q1.drewN n,(g.trans q2).trans (Grow.drewN _ _ n),q2.trans (Grow.drewN _ _ n),x1,x2,x3,x4,x5,x6⟩
     have d1:((i:Int)==(t.reads.length:Int))=false:=by simp;omega
     have d2:(i==t.reads.length)=false:=by simp;omega
     have d3:((i:Int)=(t.reads.length:Int))=False:=by simp;omega
     obtain⟨_,_,_,x1,x2,x3,_⟩:=HX.out 0 H rfl;have HP:=U (zA q1 q2);clear hj r g hlt f0 f1 f2 f3 q1 q2 c0 c1 c2 c3 t8 k0 k1 k2 hbase;go_wp2_with fail
     go_quiet (fail)
     generalize iG:H.drewN _=w5;obtain⟨r5,g5,QN,x1,x2,x3,x4,x5,x6⟩:=HX.out _ w5 iG;obtain⟨y1,y2,y3,y4,y5,y6⟩:=HK.out (w5.alloc (.cells #[I 0,zu 0,.bool false] 250)) (r5.alloc _) (QN.trans (Grow.alloc _ _ _));have H5:=U (zA r5 (zA g5 QN));clear r5 g5 QN iG;go_wp2_with fail
     go_region
     generalize nR:(w5.alloc _).drew=w6;obtain⟨_,_,_,hlt,f0,f1,f2,f3⟩:=HQ.out;obtain⟨r7,g7,f4⟩:=cB H5.out.1 #[I E,zu F,.bool got] 250;have vQ:Grow A.L w5 A.L w6:=by rw[<-nR];exact g7.trans (Grow.drew _ _)
     have r6:aD A D w6:=by rw[<-nR];exact r7.drew
     have F4:Fix A.L w6 w5.heap.size (.cells #[I E,zu F,.bool got] 250):=by rw[<-nR];exact f4.grow (Grow.drew _ _)
     have gq:=(H5.out.2.2).trans vQ;have F0:=f0.grow gq;have F1:=f1.grow gq;have F2:=f2.grow gq;have F3:=f3.grow gq;have y0:=F0.cell 0 (v:=R A.Y 0) rfl;have y1:=F1.cell 0 (v:=R (A.bt s) 0) rfl;have y4:=F4.cell 0 (v:=I E) rfl;have yt:=r6.dZ HT.out.1 4 (v:=zu t.ax) rfl;have gd:=Grow.drew A.L w6;have hf:=qz r6.drew s E t.ax (.func (.func 145) #[] #[R w5.heap.size 0,R w.heap.size 0,.pointer (some ⟨w.heap.size+1,0,none⟩),.pointer (some ⟨w.heap.size+1+1,0,none⟩),.pointer (some ⟨w.heap.size+1+1+1,0,none⟩)]) (.judge i F) ⟨_,_,_,_,_,rfl,⟨_,_,_,F4.grow gd⟩,F0.box.grow gd,F1.box.grow gd,F2.box.grow gd,F3.box.grow gd⟩;have HE:=U (zA hf ((H5.out.2.1.trans vQ).trans gd));clear hlt f0 f1 f2 f3 r7 g7 f4 vQ r6 F4 gq F0 F1 F2 F3 gd hf nR x1 x2 x3 x4 x5 x6;go_wp2_with fail;refine wp_region_still_tail 9 (by kernel_rfl) (by kernel_rfl) ?_;simp only[jk,jl,jm,jo]
     repeat still_step
     refine wpStill_nil ?_;change wpList _ _ _ _ _ w6.drew;generalize w6.drew=wd at*;go_wp2_with (go_at_call 114;refine HE.out.1.mono ?_;rintro e w2 ⟨A2,v,rfl,p1,p2,p3,p4⟩);go_ret;rw[HQ.out.1,SS.out trivial];exact⟨A2,v,rfl,p1,HE.out.2.trans p2,p3,p4⟩
  . obtain rfl:i=t.reads.length:=by omega
    have HQ:=U (zA hj (zA r g));have HA:Hid (∀ G,aD A D G->zk 144 #[R A.Y 0,R (A.bt s) 0,R (A.bc s) 0,I 0] G (aZ A G s (D,iK t 0))):=fun G q=>zN q s t HT.out.1 0
    have HJ:=U (EE t);clear hj r g hi hlt f0 f1 f2 f3;generalize t.reads.length=n at*;have d1:decide ((n:Int)<(n:Int))=false:=by simp
    go_wp2_with fail
    go_quiet (fail)
    generalize iG:wr.drewN _=w5;have c0:w5.cell? (J w.heap.size 0)=zs A.Y 0:=by rw[<-iG];exact c0
    have c1:w5.cell? ⟨w.heap.size+1,0,none⟩=zs (A.bt s) 0:=by rw[<-iG];exact c1
    have c2:w5.cell? ⟨w.heap.size+1+1,0,none⟩=zs (A.bc s) 0:=by rw[<-iG];exact c2
    have c3:w5.cell? ⟨w.heap.size+1+1+1,0,none⟩=zt n:=by rw[<-iG];exact c3
    have t8:w5.cell? (J (A.bt s) 8)=some (.slice av n iJ):=by rw[<-iG];exact t8
    have r5:aD A D w5:=by rw[<-iG];exact HQ.out.2.1.drewN _
    have g5:Grow A.L w A.L w5:=by rw[<-iG];exact HQ.out.2.2.trans (Grow.drewN _ _ _)
    have H5:=U (zA r5 g5);clear r5 g5 iG;go_wp2_with fail
    go_quiet (fail)
    go_wp2_with (go_at_call 144;refine (HA.out _ (H5.out.1.drewN _)).mono ?_;rintro e w2 ⟨A2,v,rfl,p1,p2,p3,p4⟩);go_ret;rw[HQ.out.1,HJ.out];exact⟨A2,v,rfl,p1,(H5.out.2.trans (Grow.drewN _ _ _)).trans p2,p3,p4⟩
theorem EF (w:World) (l:List Nat) (v:Value) (x:Nat) (ho:w.ownsRow 0 3 1 v l.length (l.map i64)) (hl:l.length<1000000):
 zk 234 #[v,I x] w fun e G=>(∃ r:Int,e=.returned (I r)∧(0<=r↔x∈l))∧w=G:=by
 obtain⟨av,iJ,hv,_⟩:=Ow.bD ho;have hat:∀ k (V:k<l.length),∃ g,av=za g 0∧zT w g k (l[k]:Int):=by
  intro k V;obtain⟨g,cap,e,hc⟩:=jQ ho (j:=k) (u:=I (l[k]:Int)) (by simp[V]);rw[hv] at e;simp only[Value.slice.injEq] at e;exact⟨g,e.1,hc⟩
 subst hv;have HAT:=U hat;have Ur:=U hl;clear hat ho hl;go_enter Tryz.func234,Tryz.ntmps234;go_wp2
 go_loop [8] (fun i=>∃ k:Nat,k<=l.length∧i=I k∧x ∉ l.take k) (fun i=>l.length - (intOf i).toNat)
 case atStart=>exact⟨0,zz _,rfl,by simp⟩
 case round=>
  obtain⟨k,V,rfl,hnot⟩:=hrel
  by_cases hlt:k<l.length
  . obtain⟨g,rfl,hc⟩:=HAT.out k hlt
    have ht:l.take (k+1)=l.take k++[l[k]]:=by rw[List.take_succ_eq_append_getElem hlt]
    have hmem:l[k]∈l:=List.getElem_mem hlt;have HT:=U (zA ht (zA hnot hmem));have b1:(k:Int)<(l.length:Int):=by omega
    have b0:(0:Int)<=(k:Int):=by omega
    have n1:IntKind.i64.wrap ((k:Int)+1)=(k:Int)+1:=by have:=Ur.out;rw[jH];omega
    have Ox:=U hlt;clear ht hnot V hmem;generalize l[k]=y at*
    by_cases hy:x=y
    . have HY:=U hy
      obtain⟨fa1,fa2,fa3,fa4,fa5⟩:=qX (x:=x) (c:=y) (ci:=(y:Int)) (by omega);clear hy;go_wp2;go_ret;exact⟨⟨_,rfl,by constructor<;>intro _<;>first|(rw[HY.out];exact HT.out.2.2)|omega⟩,rfl⟩
    . have HY:=U hy
      obtain⟨fa1,fa2,fa3,fa4,fa5⟩:=o9 (x:=x) (c:=y) (ci:=(y:Int)) (by omega);clear hy;go_wp2
      go_round
      case rel=>exact⟨k+1,Ox.out,by first|rfl|go_num,by rw[HT.out.1];intro h;rcases List.mem_append.1 h with h|h;exact HT.out.2.1 h;exact HY.out (List.mem_singleton.1 h)⟩
      case measure=>have:=Ox.out;simp[intOf];omega
  . have hx:x ∉ l:=by rw[List.take_of_length_le (by omega)] at hnot;exact hnot
    have HX:=U hx;obtain rfl:k=l.length:=by omega
    clear hlt hnot V hx;go_wp2;go_ret;exact⟨⟨_,rfl,by constructor;intro h;exact absurd h (by decide);intro h;exact absurd h HX.out⟩,rfl⟩
theorem yn (w:World) (l:List Nat) (v:Value) (x:Nat) (ho:w.ownsRow 0 3 1 v l.length (l.map i64)) (hl:l.length<1000000):
 zk 233 #[v,I x] w fun e G=>e=.returned (.bool (decide (x∈l)))∧w=G:=by
 have HI:=U (EF w l v x ho hl);clear ho hl;go_enter Tryz.func233,Tryz.ntmps233;go_wp2_with (go_at_call 234;refine HI.out.mono ?_;rintro e G ⟨⟨r,rfl,hr⟩,rfl⟩);go_ret;refine⟨?_,rfl⟩;have e:decide ((0:Int)<=r)=decide (x∈l):=by rw[decide_eq_decide];exact hr
 first|(rw[<-e];rfl)|(simp[hr];done)|(rw[show decide (r≥0)=decide (x∈l) from e])
theorem Does.LY {A:au} {w H:World} {s:Nat} {aH az:St} {v:Value} {e:Ending} {G:World} {A1:au} (g1:Grow A.L w A1.L H) (s1:bL A A1 s) (b1:A1.bx=A.bx) (p1:A1.aR=A.aR) (h:Does A1 H s az v e G):Does A w s az v e G:=
 let ⟨e1,A2,r,g,st,bx,vp⟩:=h;⟨e1,A2,r,g1.trans g,s1.trans st,bx.trans b1,vp.trans p1⟩
theorem Ad (hR:aD A D w) (s:Nat) (t:bB) (ht:D.ag.getD s none=some t) (tq:Nat) (hto:tq<=65535) (hn:t.aJ.length<1000000) (htl:D.aP.length<1000000):
 zk 224 #[R A.Y 0,R (A.bt s) 0,I tq] w (Does A w s (D.bind s tq) (.tuple #[])):=by
 have c9:w.cell? (J (A.bt s) 9)=some (A.dN s):=hR.dZ ht 9 rfl;have z9:=hR.tH ht 9;have hown0:=hR.mem.all (.aJ s);rw[kR ht] at hown0;obtain⟨av,iJ,hv,_⟩:=Ow.bD hown0.1;have HC:=U (yn w t.aJ _ tq hown0.1 hn)
 by_cases hm:tq∈t.aJ
 . have hst:D.bind s tq=D:=by unfold St.bind;rw[bQ ht,aV hm]
   rw[hst];have hd:decide (tq∈t.aJ)=true:=by simpa using hm
   rw[hd,hv] at HC;rw[hv] at c9;have HR:=U hR;clear hR ht hn htl hm hst hd hown0 hto hv;generalize t.aJ.length=n at*;go_enter Tryz.func224,Tryz.ntmps224;go_wp2_with (go_at_call 233;refine HC.out.mono ?_;rintro e G ⟨rfl,rfl⟩)
   go_end0
   exact⟨rfl,A,HR.out,Grow.refl _ _,bL.refl _ _,rfl,rfl⟩
 . have hd:decide (tq∈t.aJ)=false:=by simpa using hm
   rw[hd,hv] at HC;have hst:D.bind s tq=(D.bq s {t with aJ:=t.aJ++[tq]}).event {kind:=4,t:=t.id,n:=tq}:=by unfold St.bind;rw[bQ ht,aX hm]
   rw[hst];have hA:=hR.alloc (.cells #[I tq] 3);have aS:=hA.mem.all (.aJ s);rw[kR ht] at aS;have ho:(w.alloc (.cells #[I tq] 3)).ownsRow 0 3 1 (A.dN s) t.aJ.length (t.aJ.map i64):=aS.1;have n1:IntKind.u64.wrap (tq:Int)=(tq:Int):=by rw[IntKind.wrap_u64];omega
   have FN : Hid (∀ v' w2, w2.ownsRow 0 3 1 v' (t.aJ.length + 1) (t.aJ.map i64 ++ [I (tq : Int)]) -> (w.alloc (.cells #[I (tq : Int)] 3)).grownBy w2 (A.dN s).ownBlock -> (v'.ownBlock = (A.dN s).ownBlock ∨ ∀ g, v'.ownBlock = some g -> (w.alloc (.cells #[I (tq : Int)] 3)).heap.size <= g) ->
       (w2.setCell (J (A.bt s) 9) v').cell? (J (A.bt s) 0)=zt t.id∧zk 50 #[R A.Y 0,.agg #[I 4,I t.id,zu tq,I 0,I 0,I 0,I 0,I 0,I 0,.slice none 0 0,I 0,I 0]] (w2.setCell (J (A.bt s) 9) v') (Does A w s ((D.bq s {t with aJ:=t.aJ++[tq]}).event {kind:=4,t:=t.id,n:=tq}) (.tuple #[]))∧w2.cell? (J (A.bt s) 9)=some (A.dN s)∧w2.frozen? (J (A.bt s) 9)=false):=by
    intro v' w2 q1 q2 q3;obtain⟨k1,k2,k3,k4⟩:=hA.IX ht (t.aJ++[tq]) v' q2 (by simpa using q1) q3;have ht2:(D.bq s {t with aJ:=t.aJ++[tq]}).ag.getD s none=some {t with aJ:=t.aJ++[tq]}:=by rw[cO (cz ht),aV rfl]
    refine⟨k1.dZ ht2 0 rfl,?_,k3,k4⟩;have he:=kW k1 s {kind:=4,t:=t.id,n:=tq} 4 t.id tq 0 0 0 0 0 0 0 0 none 0 0 rfl (jL.nil _ _) htl;refine he.mono fun e G h=>?_
    exact Does.LY (aH:=D) ((Grow.alloc A.L w _).trans k2) ⟨rfl,rfl,rfl,rfl,rfl,rfl,rfl,rfl,rfl,rfl,rfl,fun _ _=>rfl,fun _ _=>rfl⟩ rfl rfl h
   rw[hv] at c9 ho FN;have HO:=U ho;clear hR ht htl hm hst hd hown0 hto hv hA aS ho;generalize hn':t.aJ.length=n at*;have HN:=U hn;clear hn hn';obtain⟨ii,hii,hz0,hz1,hz2⟩:=info_parts zP;go_enter Tryz.func224,Tryz.ntmps224;go_wp2_with (first|(go_at_call 233;refine HC.out.mono ?_;rintro e G ⟨rfl,rfl⟩)|(refine Ow.dH _ rfl (.tmp 17) (.tmp 19) 36 rfl 0 _ ii _ 1 8 Tryz.underlying36 hii hz0 hz1 hz2 rfl (by decide) (.slice av n iJ) n (t.aJ.map i64) rfl HO.out (J w.heap.size 0) 1 1 (by omega) [I tq] rfl rfl (by intro j' u hu;exact Ow.iF _ [I tq] _ _ rfl j' u hu) (by intro u hu;obtain rfl:=List.mem_singleton.1 hu;rfl) (by have:=HN.out;unfold maxLen;omega) (by have:=HN.out;omega) (zz _) ?_;intro v' w4 q1 q2 q3;obtain⟨k1,k2,k3,k4⟩:=FN.out v' w4 q1 q2 q3;obtain⟨a4,cap4,rfl,_⟩:=Ow.bD q1;have K1:=U k2;clear k2 q1 q2 q3)|(go_at_call 50;refine K1.out.mono ?_;rintro e w2 hd2;obtain⟨rfl,hd3⟩:=id hd2))
   go_end0
   exact⟨rfl,hd3⟩
end Go.Proofs.YthicolbbmjfkfaaGreat.Em
