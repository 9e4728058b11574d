import Derived.Test.YthicolbbmjfkfaaGreatQn11
import Derived.Test.YthicolbbmjfkfaaGreatQn9
import Derived.Test.YthicolbbmjfkfaaGreatQn7
set_option linter.unusedVariables false
set_option linter.unusedSimpArgs false
set_option maxRecDepth 100000
set_option maxHeartbeats 1600000
namespace Go.Proofs.YthicolbbmjfkfaaGreat.Em
open Go.ChangeShapes Go.WideShapes Go.ChangeAt Go.RowKit En
variable {A:au} {D:St} {w:World}
def BD (Ir:St) (s:Nat):Prop:=∀ A w,aC A Ir w->A.mp=0->zk 70 #[R A.H 0,R (A.bt s) 0,R (A.bc s) 0] w (bE A w s (Ir.first s))
def BF (A:au) (w:World) (bB:St) (err:Int):Ending->World->Prop:=fun e E=>∃ A',e=.returned (I err)∧Live A' bB E∧Grow A.L w A'.L E∧A'.H=A.H
def gN (o:En.Op) (q:Nat):dN:={op:=o,k:=none,r:={},waits:=false,over:=false,seq:=q}
theorem zX {D:St} {s q:Nat} (c:dN) (h:q≠s):(D.aK s c).calls.getD q none=D.calls.getD q none:=by
 unfold St.aK;simp only[mM,List.getElem?_set];rw[aR (Ne.symm h)]
theorem FW (hL:Live A D w) (s:Nat) (hs:s<8) (t:bL) (ht:D.aj.getD s none=some t) (o:En.Op) (ho:p9 o=true) (he:iB o=true) (hn:D.calls.getD s none=none) (hop:t.ops<1000000) (Ct:D.seq<4000000000000000000)
 (HF:BD (({D with seq:=D.seq+1}:St).aK s (gN o (D.seq+1))) s) (dU:St) (k:K) (hf:(({D with seq:=D.seq+1}:St).aK s (gN o (D.seq+1))).first s=(dU,k)) (c4:dN) (hc4:dU.calls.getD s none=some c4) (hcq:∀ q,q≠s->dU.calls.getD q none=D.calls.getD q none):
 zk 33 #[R A.H 0,I s,.agg #[I o.kind,I o.F,I o.hi,I o.value]] w (BF A w (dU.aK s {c4 with k:=some k}) 0):=by
 have Ns:Hid (dU.sw=D.sw∧dU.cut=D.cut):=zH (by have h:=DD (({D with seq:=D.seq+1}:St).aK s (gN o (D.seq+1))) s;rw[hf] at h;exact h);obtain⟨r0,g0,f0⟩:=dA hL.rep #[I o.kind,I o.F,I o.hi,I o.value] 27;have gH:=zH (fI s hs);have hok:=zH (uL o ho);have hen:=zH (Bz o);rw[he] at hen;have b1:(s:Int)<8:=by omega
 have b0:(0:Int)<=(s:Int):=by omega
 have hV:∀ (A':au) (bB:St) E,aC A' bB E->A'.H=A.H->A'.bt=A.bt->A'.bF=A.bF->(∃ t',bB.aj.getD s none=some t')->zS E A.H (5+s) (A.bt s) 0∧E.cell? (J A.H (13+s))=some (.pointer none):=by
  rintro A' bB E r e1 e2 e3 ⟨t',ht'⟩;have h:=r.df (5+s) (dI A' bB hs);have h2:=r.df (13+s) (dP A' bB hs);have e:A'.tp bB s=R (A.bt s) 0:=by unfold au.tp;rw[ht',e2]
  rw[e,e1] at h;rw[e1,e3,hL.idle s hs hn] at h2;exact⟨h,h2⟩
 have HW:Hid (∀ E,Below (w.alloc (.cells #[I o.kind,I o.F,I o.hi,I o.value] 27)).heap.size (w.alloc (.cells #[I o.kind,I o.F,I o.hi,I o.value] 27)) E->aC A D E∧Grow A.L w A.L E∧Fix A.L E w.heap.size (.cells #[I o.kind,I o.F,I o.hi,I o.value] 27)∧zS E A.H (5+s) (A.bt s) 0∧E.cell? (J A.H (13+s))=some (.pointer none)∧zT E (A.bt s) 5 t.ops∧E.frozen? (J (A.bt s) 5)=false∧zT E A.H 22 (D.seq:Int)∧E.frozen? (J A.H 22)=false):=by
  intro E hb;have r:=r0.below hb;have gb:=Grow.below (L:=A.L) hb;obtain⟨v1,v2⟩:=hV A D E r rfl rfl rfl ⟨t,ht⟩;exact⟨r,g0.trans gb,f0.grow gb,v1,v2,r.fw ht 5 rfl,r.wO ht 5,r.df 22 rfl,r.iC 22⟩
 obtain⟨_,_,_,v1,v2,v3,v4,v5,v6⟩:=HW.out _ (Below.refl _ _);have uC:=zH (zA hL (zA ht (zA hn (zA hs (zA hc4 hcq)))));have Un:=zH (zA HF hf);have hd:(decide ((12:Int)<=(t.ops:Int))=false∧((12:Int)<=(t.ops:Int))=False∧(12<=t.ops)=False)∨(decide ((12:Int)<=(t.ops:Int))=true∧((12:Int)<=(t.ops:Int))=True∧(12<=t.ops)=True∧Hid (0=0)):=by
  rcases Nat.lt_or_ge t.ops 12 with h|h
  . exact .inl ⟨by simp;omega,by simp;omega,by simp;omega⟩
  . exact .inr ⟨by simp;omega,by simp;omega,by simp;omega,zH rfl⟩
 have n1:IntKind.i64.wrap ((t.ops:Int)+1)=(t.ops:Int)+1:=by rw[jG];omega
 have n2:IntKind.i64.wrap ((D.seq:Int)+1)=(D.seq:Int)+1:=by rw[jG];omega
 clear hL r0 g0 f0 hs ho he hn hop Ct HF hf hc4 hcq hV ht
 rcases hd with ⟨d1,d2,d3⟩|⟨d1,d2,d3,TA⟩
 all_goals (
  go_enter Tryz.func33,Tryz.ntmps33
  go_wp2_with (first|(go_at_call 40;refine (gH.out _).mono ?_;rintro e E ⟨rfl,rfl⟩)|(go_at_call 68;refine (hok.out _).mono ?_;rintro e Y ⟨rfl,hb⟩;obtain⟨r1,g1,f1,x1,x2,x3,x4,x5,x6⟩:=HW.out Y hb;have y0:=f1.cell 0 (v:=I o.kind) rfl;have y1:=f1.cell 1 (v:=I o.F) rfl;have y2:=f1.cell 2 (v:=I o.hi) rfl;have y3:=f1.cell 3 (v:=I o.value) rfl;have H1:=zH hb;clear r1 g1 f1 hb)|(go_at_call 69;refine (hen.out _).mono ?_;rintro e Y ⟨rfl,hb2⟩;clear TA;obtain⟨r1,g1,f1,x1,x2,x3,x4,x5,x6⟩:=HW.out Y (H1.out.trans (hb2.mono H1.out.size));have y0:=f1.cell 0 (v:=I o.kind) rfl;have y1:=f1.cell 1 (v:=I o.F) rfl;have y2:=f1.cell 2 (v:=I o.hi) rfl;have y3:=f1.cell 3 (v:=I o.value) rfl;have Yf:=zH (H1.out.trans (hb2.mono H1.out.size));clear r1 g1 f1 hb2 H1;have H1:=Yf;clear Yf)|(go_at_call 69;refine (hen.out _).mono ?_;rintro e w2 ⟨rfl,hb2⟩;obtain⟨r1,g1,f1,x1,x2,x3,x4,x5,x6⟩:=HW.out w2 (H1.out.trans (hb2.mono H1.out.size));have y0:=f1.cell 0 (v:=I o.kind) rfl;have y1:=f1.cell 1 (v:=I o.F) rfl;have y2:=f1.cell 2 (v:=I o.hi) rfl;have y3:=f1.cell 3 (v:=I o.value) rfl;have H2:=zH (zA r1 (zA g1 f1));clear r1 g1 f1 hb2))
  obtain⟨r1,g1,f1⟩:=H2.out
  obtain⟨hL,ht,hn,hs,hc4,hcq⟩:=uC.out
  obtain⟨ra,OX⟩:=r1.Kv (D.seq+1)
  rw[show ((D.seq+1:Nat):Int)=(D.seq:Int)+1 from rfl] at ra OX
  have ga:=g1.trans OX
  have fa:=f1.grow OX
  clear OX
  generalize w2.setCell (J A.H 22) (I ((D.seq:Int)+1))=w3 at*
  have hseq:=ra.df 22 (v:=I ((D.seq:Int)+1)) rfl
  have o0:=fa.cell 0 (v:=I o.kind) rfl
  have o1:=fa.cell 1 (v:=I o.F) rfl
  have o2:=fa.cell 2 (v:=I o.hi) rfl
  have o3:=fa.cell 3 (v:=I o.value) rfl
  have hB:Below w3.heap.size w3 (w3.alloc (.cells #[I o.kind,I o.F,I o.hi,I o.value,.nilFunc,I 0,I 0,.slice none 0 0,I 0,I 0,.bool false,.bool false,I ((D.seq:Int)+1)] 141)).drew:=((Below.refl _ _).alloc (zr _) _).drew
  have hblk:(w3.alloc (.cells #[I o.kind,I o.F,I o.hi,I o.value,.nilFunc,I 0,I 0,.slice none 0 0,I 0,I 0,.bool false,.bool false,I ((D.seq:Int)+1)] 141)).drew.heap[w3.heap.size]? =some (.cells (fH (A.gU s w3.heap.size .nilFunc) s (gN o (D.seq+1))).toArray 141):=by
   rw[show (fH (A.gU s w3.heap.size .nilFunc) s (gN o (D.seq+1))).toArray=#[I o.kind,I o.F,I o.hi,I o.value,.nilFunc,I 0,I 0,.slice none 0 0,I 0,I 0,.bool false,.bool false,I ((D.seq:Int)+1)] by simp[fH,au.gU,kS,gN]]
   exact heap_alloc_new w3 _
  have hn1:({D with seq:=D.seq+1}:St).calls.getD s none=none:=hn
  obtain⟨rb,gb⟩:=ra.gU hB hs (zr _) .nilFunc (gN o (D.seq+1)) rfl hblk hn1
  obtain⟨A1,hA1⟩:∃ A1:au,A1=A.gU s w3.heap.size .nilFunc:=⟨_,rfl⟩
  rw[<-hA1] at rb gb
  have e1:A1.H=A.H:=by rw[hA1];rfl
  have e2:A1.bt=A.bt:=by rw[hA1];rfl
  have e3:A1.bc s=w3.heap.size:=by rw[hA1];exact aV rfl
  have e4:A1.mp=A.mp:=by rw[hA1];rfl
  have Rh:=Un.out.1 A1 _ rb (e4.trans hL.mp)
  rw[Un.out.2,e1,e2,e3] at Rh
  have hst:∀ A5:au,bT A1 A5 s->zW A A5 s:=fun A5 st=>by
   refine⟨st.bf.trans (by rw[hA1];rfl),st.mp.trans e4,st.mt.trans (by rw[hA1];rfl),fun q _=>by rw[st.bt,e2],fun q hq=>by rw[st.bc,hA1];exact aR hq,fun q hq=>(st.bx q hq).trans (by rw[hA1];rfl),fun q hq=>(st.aY q hq).trans (by rw[hA1];exact bH _ _ hq),fun q hq=>by rw[st.bA,hA1];exact bH _ _ hq,fun q hq=>by rw[st.bF,hA1];rfl⟩
  have HN:Hid (∀ A5 w5 v A6,A6={A5 with bA:=kS A5.bA s v}->aC A5 dU w5->bT A1 A5 s->w5.cell? (J w3.heap.size 4)=some (A5.bA s)∧w5.frozen? (J w3.heap.size 4)=false∧aC A6 (dU.aK s {c4 with k:=some k}) (w5.setCell (J w3.heap.size 4) v)∧Grow A5.L w5 A5.L (w5.setCell (J w3.heap.size 4) v)∧(w5.setCell (J w3.heap.size 4) v).cell? (J A.H (13+s))=some (A5.bF s)∧(w5.setCell (J w3.heap.size 4) v).frozen? (J A.H (13+s))=false):=by
   intro A5 w5 v A6 Ri q st
   have xu:A5.bc s=w3.heap.size:=by rw[st.bc];exact e3
   have x4:=q.call hc4 4 (v:=A5.bA s) rfl
   have z4:=q.qh hc4 4
   obtain⟨r6,g6⟩:=q.sQ hc4 v (some k)
   rw[<-Ri,xu] at r6
   rw[xu] at x4 z4 g6
   have e6:A6.H=A.H:=by rw[Ri];exact st.H.trans e1
   have m13:=r6.df (13+s) (dP A6 _ hs)
   have Km:=r6.iC (13+s)
   rw[e6] at m13 Km
   rw[show A6.bF=A5.bF by rw[Ri]] at m13
   exact⟨x4,z4,r6,g6,m13,Km⟩
  have HY:=zH (zA Rh (zA gb (zA ga (zA hst (zA e3 (zA e1 (zA hc4 (zA hcq hs))))))))
  clear hL ht hn hs hc4 hcq ra ga fa hB hblk hn1 rb gb hA1 e1 e2 e3 e4 Rh hst r1 g1 f1
  go_region
  generalize hw4:(w3.alloc _).drew=w4 at*
  clear hseq o0 o1 o2 o3 hw4
  go_wp2_with (go_at_call 70;refine HY.out.1.mono ?_;rintro e w5 ⟨A5,v,rfl,p1,p2,p3,p4⟩;obtain⟨f5,u5,u6,rfl,_⟩:=ny.enter p4;obtain⟨x4,z4,r6,g6,m13,Km⟩:=HN.out A5 w5 (.func (.func f5) u5 u6) _ rfl p1 p3;have HP:=zH (zA p2 (zA p3 (zA p4 (zA r6 g6))));clear p1 p2 p3 p4 r6 g6)
  go_ret
  obtain⟨_,gb,ga,hst,e3,e1,hc4,hcq,hs⟩:=HY.out
  obtain⟨p2,p3,p4,r6,g6⟩:=HP.out
  obtain⟨r7,g7⟩:=r6.sP hs (R w3.heap.size 0)
  obtain⟨A7,rY⟩:∃ A7:au,A7={A5 with bA:=kS A5.bA s (.func (.func f5) u5 u6),bF:=kS A5.bF s (R w3.heap.size 0)}:=⟨_,rfl⟩
  rw[show ({A5 with bA:=kS A5.bA s (.func (.func f5) u5 u6)}:au).H=A.H from p3.H.trans e1] at g7
  have r8:aC A7 (dU.aK s {c4 with k:=some k}) ((w5.setCell (J w3.heap.size 4) (.func (.func f5) u5 u6)).setCell (J A.H (13+s)) (R w3.heap.size 0)):=by
   rw[rY,<-show A5.H=A.H from p3.H.trans e1]
   exact r7
  have Uo:A7.L=A5.L:=by rw[rY]
  have gg:Grow A.L w A7.L ((w5.setCell (J w3.heap.size 4) (.func (.func f5) u5 u6)).setCell (J A.H (13+s)) (R w3.heap.size 0)):=by
   rw[Uo]
   exact (((ga.trans gb).trans p2).trans g6).trans g7
  have sq:=hst A5 p3
  have hc':(dU.aK s {c4 with k:=some k}).calls.getD s none=some {c4 with k:=some k}:=by rw[dm (bP hc4),aV rfl]
  refine⟨A7,rfl,Live.of (s:=s) uC.out.1 Ns.out r8 gg ⟨by rw[rY];exact sq.bf,by rw[rY];exact sq.mp,by rw[rY];exact sq.mt,fun q hq=>by rw[rY];exact sq.bt q hq,fun q hq=>by rw[rY];exact sq.bc q hq,fun q hq=>by rw[rY];exact sq.bx q hq,fun q hq=>by rw[rY];exact sq.aY q hq,fun q hq=>by rw[rY];exact (bH _ _ hq).trans (sq.bA q hq),fun q hq=>by rw[rY];exact (bH _ _ hq).trans (sq.bF q hq)⟩ (fun q hq=>?_) (fun c' hcc=>?_) (fun hnn=>by have h0:=hc'.symm.trans hnn;cases h0),gg,by rw[rY];exact sq.H⟩
  . rw[zX _ hq];exact hcq q hq
  . obtain rfl:{c4 with k:=some k}=c':=zj (hc'.symm.trans hcc)
    refine⟨?_,k,rfl,?_⟩
    . rw[rY]
      show kS A5.bF s _ s=ptr (A5.bc s)
      rw[lU,p3.bc,e3]
    . have ek:kp A7 (dU.aK s {c4 with k:=some k}) s=kp A5 dU s:=by unfold kp;rw[bu hc',bu hc4,rY]
      have ev:A7.bA s=.func (.func f5) u5 u6:=by rw[rY];exact lU _ _ _
      rw[ek,ev,Uo]
      exact p4.grow (g6.trans g7)
 )
theorem DL (hL:Live A D w) (s:Nat) (hs:s<8) (t:bL) (ht:D.aj.getD s none=some t) (o:En.Op) (ho:p9 o=true) (he:iB o=false) (hn:D.calls.getD s none=none) (hop:t.ops<12) (Ct:D.seq<4000000000000000000)
 (HF:BD (({(D.bK s {t with ops:=t.ops+1}) with seq:=D.seq+1}:St).aK s (gN o (D.seq+1))) s) (dU:St) (k:K) (hf:(({(D.bK s {t with ops:=t.ops+1}) with seq:=D.seq+1}:St).aK s (gN o (D.seq+1))).first s=(dU,k)) (c4:dN) (hc4:dU.calls.getD s none=some c4) (hcq:∀ q,q≠s->dU.calls.getD q none=D.calls.getD q none):
 zk 33 #[R A.H 0,I s,.agg #[I o.kind,I o.F,I o.hi,I o.value]] w (BF A w (dU.aK s {c4 with k:=some k}) 0):=by
 have Ns:Hid (dU.sw=D.sw∧dU.cut=D.cut):=zH (by have h:=DD (({(D.bK s {t with ops:=t.ops+1}) with seq:=D.seq+1}:St).aK s (gN o (D.seq+1))) s;rw[hf] at h;exact h);obtain⟨r0,g0,f0⟩:=dA hL.rep #[I o.kind,I o.F,I o.hi,I o.value] 27;have gH:=zH (fI s hs);have hok:=zH (uL o ho);have hen:=zH (Bz o);rw[he] at hen;have b1:(s:Int)<8:=by omega
 have b0:(0:Int)<=(s:Int):=by omega
 have hV:∀ (A':au) (bB:St) E,aC A' bB E->A'.H=A.H->A'.bt=A.bt->A'.bF=A.bF->(∃ t',bB.aj.getD s none=some t')->zS E A.H (5+s) (A.bt s) 0∧E.cell? (J A.H (13+s))=some (.pointer none):=by
  rintro A' bB E r e1 e2 e3 ⟨t',ht'⟩;have h:=r.df (5+s) (dI A' bB hs);have h2:=r.df (13+s) (dP A' bB hs);have e:A'.tp bB s=R (A.bt s) 0:=by unfold au.tp;rw[ht',e2]
  rw[e,e1] at h;rw[e1,e3,hL.idle s hs hn] at h2;exact⟨h,h2⟩
 have HW:Hid (∀ E,Below (w.alloc (.cells #[I o.kind,I o.F,I o.hi,I o.value] 27)).heap.size (w.alloc (.cells #[I o.kind,I o.F,I o.hi,I o.value] 27)) E->aC A D E∧Grow A.L w A.L E∧Fix A.L E w.heap.size (.cells #[I o.kind,I o.F,I o.hi,I o.value] 27)∧zS E A.H (5+s) (A.bt s) 0∧E.cell? (J A.H (13+s))=some (.pointer none)∧zT E (A.bt s) 5 t.ops∧E.frozen? (J (A.bt s) 5)=false∧zT E A.H 22 (D.seq:Int)∧E.frozen? (J A.H 22)=false):=by
  intro E hb;have r:=r0.below hb;have gb:=Grow.below (L:=A.L) hb;obtain⟨v1,v2⟩:=hV A D E r rfl rfl rfl ⟨t,ht⟩;exact⟨r,g0.trans gb,f0.grow gb,v1,v2,r.fw ht 5 rfl,r.wO ht 5,r.df 22 rfl,r.iC 22⟩
 obtain⟨_,_,_,v1,v2,v3,v4,v5,v6⟩:=HW.out _ (Below.refl _ _);have uC:=zH (zA hL (zA ht (zA hn (zA hs (zA hc4 hcq)))));have Un:=zH (zA HF hf);have d1:decide ((12:Int)<=(t.ops:Int))=false:=by simp;omega
 have d2:((12:Int)<=(t.ops:Int))=False:=by simp;omega
 have d3:(12<=t.ops)=False:=by simp;omega
 have n1:IntKind.i64.wrap ((t.ops:Int)+1)=(t.ops:Int)+1:=by rw[jG];omega
 have n2:IntKind.i64.wrap ((D.seq:Int)+1)=(D.seq:Int)+1:=by rw[jG];omega
 clear hL r0 g0 f0 hs ho he hn hop Ct HF hf hc4 hcq hV ht;go_enter Tryz.func33,Tryz.ntmps33;go_wp2_with (first|(go_at_call 40;refine (gH.out _).mono ?_;rintro e E ⟨rfl,rfl⟩)|(go_at_call 68;refine (hok.out _).mono ?_;rintro e Y ⟨rfl,hb⟩;obtain⟨r1,g1,f1,x1,x2,x3,x4,x5,x6⟩:=HW.out Y hb;have y0:=f1.cell 0 (v:=I o.kind) rfl;have y1:=f1.cell 1 (v:=I o.F) rfl;have y2:=f1.cell 2 (v:=I o.hi) rfl;have y3:=f1.cell 3 (v:=I o.value) rfl;have H1:=zH hb;clear r1 g1 f1 hb)|(go_at_call 69;refine (hen.out _).mono ?_;rintro e w2 ⟨rfl,hb2⟩;obtain⟨r1,g1,f1,x1,x2,x3,x4,x5,x6⟩:=HW.out w2 (H1.out.trans (hb2.mono H1.out.size));have y0:=f1.cell 0 (v:=I o.kind) rfl;have y1:=f1.cell 1 (v:=I o.F) rfl;have y2:=f1.cell 2 (v:=I o.hi) rfl;have y3:=f1.cell 3 (v:=I o.value) rfl;have H2:=zH (zA r1 (zA g1 f1));clear r1 g1 f1 hb2));obtain⟨r1,g1,f1⟩:=H2.out;obtain⟨hL,ht,hn,hs,hc4,hcq⟩:=uC.out;obtain⟨rt,gt⟩:=r1.E9 ht {t with ops:=t.ops+1} 5 (I ((t.ops:Int)+1)) rfl rfl rfl rfl rfl;obtain⟨ra,OX⟩:=rt.Kv (D.seq+1);rw[show ((D.seq+1:Nat):Int)=(D.seq:Int)+1 from rfl] at ra OX;have ga:=(g1.trans gt).trans OX;have fa:=f1.grow (gt.trans OX);clear OX rt gt;generalize (w2.setCell (J (A.bt s) 5) (I ((t.ops:Int)+1))).setCell (J A.H 22) (I ((D.seq:Int)+1))=w3 at*;have hseq:=ra.df 22 (v:=I ((D.seq:Int)+1)) rfl;have o0:=fa.cell 0 (v:=I o.kind) rfl;have o1:=fa.cell 1 (v:=I o.F) rfl;have o2:=fa.cell 2 (v:=I o.hi) rfl;have o3:=fa.cell 3 (v:=I o.value) rfl;have hB:Below w3.heap.size w3 (w3.alloc (.cells #[I o.kind,I o.F,I o.hi,I o.value,.nilFunc,I 0,I 0,.slice none 0 0,I 0,I 0,.bool false,.bool false,I ((D.seq:Int)+1)] 141)).drew:=((Below.refl _ _).alloc (zr _) _).drew;have hblk:(w3.alloc (.cells #[I o.kind,I o.F,I o.hi,I o.value,.nilFunc,I 0,I 0,.slice none 0 0,I 0,I 0,.bool false,.bool false,I ((D.seq:Int)+1)] 141)).drew.heap[w3.heap.size]? =some (.cells (fH (A.gU s w3.heap.size .nilFunc) s (gN o (D.seq+1))).toArray 141):=by
  rw[show (fH (A.gU s w3.heap.size .nilFunc) s (gN o (D.seq+1))).toArray=#[I o.kind,I o.F,I o.hi,I o.value,.nilFunc,I 0,I 0,.slice none 0 0,I 0,I 0,.bool false,.bool false,I ((D.seq:Int)+1)] by simp[fH,au.gU,kS,gN]];exact heap_alloc_new w3 _
 have hn1:({(D.bK s {t with ops:=t.ops+1}) with seq:=D.seq+1}:St).calls.getD s none=none:=hn;obtain⟨rb,gb⟩:=ra.gU hB hs (zr _) .nilFunc (gN o (D.seq+1)) rfl hblk hn1;obtain⟨A1,hA1⟩:∃ A1:au,A1=A.gU s w3.heap.size .nilFunc:=⟨_,rfl⟩
 rw[<-hA1] at rb gb;have e1:A1.H=A.H:=by rw[hA1];rfl
 have e2:A1.bt=A.bt:=by rw[hA1];rfl
 have e3:A1.bc s=w3.heap.size:=by rw[hA1];exact aV rfl
 have e4:A1.mp=A.mp:=by rw[hA1];rfl
 have Rh:=Un.out.1 A1 _ rb (e4.trans hL.mp);rw[Un.out.2,e1,e2,e3] at Rh;have hst:∀ A5:au,bT A1 A5 s->zW A A5 s:=fun A5 st=>by
  refine⟨st.bf.trans (by rw[hA1];rfl),st.mp.trans e4,st.mt.trans (by rw[hA1];rfl),fun q _=>by rw[st.bt,e2],fun q hq=>by rw[st.bc,hA1];exact aR hq,fun q hq=>(st.bx q hq).trans (by rw[hA1];rfl),fun q hq=>(st.aY q hq).trans (by rw[hA1];exact bH _ _ hq),fun q hq=>by rw[st.bA,hA1];exact bH _ _ hq,fun q hq=>by rw[st.bF,hA1];rfl⟩
 have HN:Hid (∀ A5 w5 v A6,A6={A5 with bA:=kS A5.bA s v}->aC A5 dU w5->bT A1 A5 s->w5.cell? (J w3.heap.size 4)=some (A5.bA s)∧w5.frozen? (J w3.heap.size 4)=false∧aC A6 (dU.aK s {c4 with k:=some k}) (w5.setCell (J w3.heap.size 4) v)∧Grow A5.L w5 A5.L (w5.setCell (J w3.heap.size 4) v)∧(w5.setCell (J w3.heap.size 4) v).cell? (J A.H (13+s))=some (A5.bF s)∧(w5.setCell (J w3.heap.size 4) v).frozen? (J A.H (13+s))=false):=by
  intro A5 w5 v A6 Ri q st;have xu:A5.bc s=w3.heap.size:=by rw[st.bc];exact e3
  have x4:=q.call hc4 4 (v:=A5.bA s) rfl;have z4:=q.qh hc4 4;obtain⟨r6,g6⟩:=q.sQ hc4 v (some k);rw[<-Ri,xu] at r6;rw[xu] at x4 z4 g6;have e6:A6.H=A.H:=by rw[Ri];exact st.H.trans e1
  have m13:=r6.df (13+s) (dP A6 _ hs);have Km:=r6.iC (13+s);rw[e6] at m13 Km;rw[show A6.bF=A5.bF by rw[Ri]] at m13;exact⟨x4,z4,r6,g6,m13,Km⟩
 have HY:=zH (zA Rh (zA gb (zA ga (zA hst (zA e3 (zA e1 (zA hc4 (zA hcq hs))))))));clear hL ht hn hs hc4 hcq ra ga fa hB hblk hn1 rb gb hA1 e1 e2 e3 e4 Rh hst r1 g1 f1
 go_region
 generalize hw4:(w3.alloc _).drew=w4 at*;clear hseq o0 o1 o2 o3 hw4;go_wp2_with (go_at_call 70;refine HY.out.1.mono ?_;rintro e w5 ⟨A5,v,rfl,p1,p2,p3,p4⟩;obtain⟨f5,u5,u6,rfl,_⟩:=ny.enter p4;obtain⟨x4,z4,r6,g6,m13,Km⟩:=HN.out A5 w5 (.func (.func f5) u5 u6) _ rfl p1 p3;have HP:=zH (zA p2 (zA p3 (zA p4 (zA r6 g6))));clear p1 p2 p3 p4 r6 g6);go_ret;obtain⟨_,gb,ga,hst,e3,e1,hc4,hcq,hs⟩:=HY.out;obtain⟨p2,p3,p4,r6,g6⟩:=HP.out;obtain⟨r7,g7⟩:=r6.sP hs (R w3.heap.size 0);obtain⟨A7,rY⟩:∃ A7:au,A7={A5 with bA:=kS A5.bA s (.func (.func f5) u5 u6),bF:=kS A5.bF s (R w3.heap.size 0)}:=⟨_,rfl⟩
 rw[show ({A5 with bA:=kS A5.bA s (.func (.func f5) u5 u6)}:au).H=A.H from p3.H.trans e1] at g7;have r8:aC A7 (dU.aK s {c4 with k:=some k}) ((w5.setCell (J w3.heap.size 4) (.func (.func f5) u5 u6)).setCell (J A.H (13+s)) (R w3.heap.size 0)):=by
  rw[rY,<-show A5.H=A.H from p3.H.trans e1];exact r7
 have Uo:A7.L=A5.L:=by rw[rY]
 have gg:Grow A.L w A7.L ((w5.setCell (J w3.heap.size 4) (.func (.func f5) u5 u6)).setCell (J A.H (13+s)) (R w3.heap.size 0)):=by
  rw[Uo];exact (((ga.trans gb).trans p2).trans g6).trans g7
 have sq:=hst A5 p3;have hc':(dU.aK s {c4 with k:=some k}).calls.getD s none=some {c4 with k:=some k}:=by rw[dm (bP hc4),aV rfl]
 refine⟨A7,rfl,Live.of (s:=s) uC.out.1 Ns.out r8 gg ⟨by rw[rY];exact sq.bf,by rw[rY];exact sq.mp,by rw[rY];exact sq.mt,fun q hq=>by rw[rY];exact sq.bt q hq,fun q hq=>by rw[rY];exact sq.bc q hq,fun q hq=>by rw[rY];exact sq.bx q hq,fun q hq=>by rw[rY];exact sq.aY q hq,fun q hq=>by rw[rY];exact (bH _ _ hq).trans (sq.bA q hq),fun q hq=>by rw[rY];exact (bH _ _ hq).trans (sq.bF q hq)⟩ (fun q hq=>?_) (fun c' hcc=>?_) (fun hnn=>by have h0:=hc'.symm.trans hnn;cases h0),gg,by rw[rY];exact sq.H⟩
 . rw[zX _ hq];exact hcq q hq
 . obtain rfl:{c4 with k:=some k}=c':=zj (hc'.symm.trans hcc)
   refine⟨?_,k,rfl,?_⟩
   . rw[rY]
     show kS A5.bF s _ s=ptr (A5.bc s);rw[lU,p3.bc,e3]
   . have ek:kp A7 (dU.aK s {c4 with k:=some k}) s=kp A5 dU s:=by unfold kp;rw[bu hc',bu hc4,rY]
     have ev:A7.bA s=.func (.func f5) u5 u6:=by rw[rY];exact lU _ _ _
     rw[ek,ev,Uo];exact p4.grow (g6.trans g7)
def lZ (t:bL) (F:Nat):List zy:=if ((t.cell F).getD default).old≠0 then [⟨af ((t.cell F).getD default).old 1,mine t,ever⟩] else []
theorem zf (D:St) (t:bL):fV D t=t.keys.flatMap (lZ t):=rfl
theorem BG (t:bL) (F:Nat):(lZ t F).length<=3:=by
 unfold lZ
 split
 all_goals simp
theorem Lv {o:Oper} {a:Act} {K:Act->World->Prop} {Q:Exit->Act->World->Prop} (w W:World) (s x:Operand)
 (ho:o.op=.call {callee:=.builtin .append,args:=#[s,x],argTypes:=#[232,232]})
 (w0:World) (hb:Below w0.heap.size w0 w) (av:Option Addr) (m cap:Nat) (xs:List Value) (hs:a.eval s=.slice av m cap) (aU:w.ownsRow w0.heap.size 234 3 (.slice av m cap) m xs) (hm:m<4000000)
 (t0 t1 t2:Int) (hW:W=(w.alloc (.cells #[I t0,zu t1,zu t2] 234)).drew) (hx:a.eval x=.slice (some (J w.heap.size 0)) 1 1)
 (h:∀ Ih cap' E,E.ownsRow w0.heap.size 234 3 (.slice Ih (m+1) cap') (m+1) (xs++[I t0,zu t1,zu t2])->Below w0.heap.size w0 E->K (a.put o.dst (.slice Ih (m+1) cap')) E):
 o.wp Tryz.prog a W K Q:=by
 subst hW;obtain⟨ii,hii,hz0,hz1,hz2⟩:=info_parts Qc;have hw:=hb.size;have hown':(w.alloc (.cells #[I t0,zu t1,zu t2] 234)).drew.ownsRow w0.heap.size 234 3 (.slice av m cap) m xs:=oC aU fun g hg=>Below.heap_alloc _ _ _ (aU.lt g hg).2
 refine Ow.mP _ s x 232 ho w0.heap.size 234 ii _ 3 24 Tryz.underlying232 hii hz0 hz1 hz2 rfl (by decide) (.slice av m cap) m xs hs hown' (J w.heap.size 0) 1 1 (by omega) [I t0,zu t1,zu t2] hx rfl (fun j u hu=>Ow.iw w [I t0,zu t1,zu t2] _ _ rfl j u hu) (by intro u hu;simp at hu;rcases hu with rfl|rfl|rfl<;>rfl) (by unfold maxLen;omega) (by omega) (by simp[World.drew];omega) ?_;intro v' E q1 q2 q3;obtain⟨Ih,cap',rfl,_⟩:=Ow.bN q1;exact h Ih cap' E q1 (((hb.alloc hw _).drew).grown q2 (by simp[World.drew];omega) (fun g hg=>(aU.lt g hg).1))
set_option maxHeartbeats 16000000 in
theorem OY (hR:aC A D w) (s:Nat) (t:bL) (ht:D.aj.getD s none=some t) (hm:A.mt s=0) (er aQ:Nat) (hen:t.aA<=1099511627776) (hi1:1<=t.id) (hid:t.id<=2000) (hkl:t.keys.length<1000000) (hK:FH D t) (htl:D.aT.length<1000000) (aL:D.count<4000000000000000000) (b0 b1 b2 b3 b4:Nat)
 (B0:aN A.L w b0 (R A.H 0)) (B1:aN A.L w b1 (R (A.bt s) 0)) (B2:aN A.L w b2 (I aQ)) (B3:aN A.L w b3 (R (A.bc s) 0)) (B4:aN A.L w b4 (I er)):
 zk 124 #[R b0 0,R b1 0,R b2 0,R b3 0,R b4 0] w (kY A w s (D.run s (.abort er aQ))):=by
 have c0:=B0.cell;have c1:=B1.cell;have e2:=hR.z2;have t4:w.cell? (J (A.bt s) 4)=zv t.aA:=hR.fw ht 4 rfl;have t0:w.cell? (J (A.bt s) 0)=zt t.id:=hR.fw ht 0 rfl;have HP:=zH (fu hR.drew t.id (by omega));have HA:=zH (kX 4 (t.aA:Int) 4 t.aA rfl rfl (by omega) (by omega) w.drew);have HL:=zH (fT hR.drew (D.place t.id) (pack 4 t.aA) (by rw[hR.nw];unfold St.place;omega) aL);have HG:=zG A.L w;obtain⟨aD,yY⟩:∃ aD,aD=(D.put (D.place t.id) (pack 4 t.aA)).dH s {kind:=6,t:=t.id,res:={aQ:=aQ}}:=⟨_,rfl⟩
 have aX:D.run s (.abort er aQ)=(aD,some (.turns (t.keys.flatMap (lZ t)) {e:=er,over:=4,aQ:=aQ})):=by
  rw[yY,<-zf (D.put (D.place t.id) (pack 4 t.aA)) t];simp only[St.run,cK ht];rfl
 rw[aX];obtain⟨t2,ht2,hk2,hc2,Lf⟩:∃ t2,aD.aj.getD s none=some t2∧t2.keys=t.keys∧t2.cells=t.cells∧t2.id=t.id:=by
  have ht1:(D.put (D.place t.id) (pack 4 t.aA)).aj.getD s none=some t:=ht;rw[yY];unfold St.dH;rw[cK ht1]
  by_cases ho:t.over=true
  . rw[aV ho];exact⟨t,ht1,rfl,rfl,rfl⟩
  . rw[aR ho]
    refine⟨{t with over:=true},?_,rfl,rfl,rfl⟩;show ((D.put (D.place t.id) (pack 4 t.aA)).bK s {t with over:=true}).aj.getD s none=_;rw[dC (dB ht1),aV rfl]
 have HB1:Hid (∀ Y,aC A (D.put (D.place t.id) (pack 4 t.aA)) Y->Grow A.L w A.L Y->zk 125 #[R A.H 0,R (A.bt s) 0,.agg #[I 6,I t.id,zu 0,I 0,I 0,I 0,I 0,I 0,I 0,.slice none 0 0,I 0,I aQ]] Y.drew (Told A Y.drew s aD)∧zS Y b0 0 A.H 0∧zS Y b1 0 (A.bt s) 0∧zT Y b2 0 aQ∧zT Y (A.bt s) 0 t.id):=by
  intro Y q g;rw[yY];exact⟨Dv q.drew s t ht hm _ 6 t.id aQ rfl rfl htl,(B0.grow g).cell,(B1.grow g).cell,(B2.grow g).cell,q.fw ht 0 rfl⟩
 have HB2 : Hid (∀ A2 w2, aC A2 aD w2 -> Grow A.L w A2.L w2 -> bT A A2 s -> A2.bx = A.bx -> ∀ w3, Below w2.heap.size w2 w3 -> zS w3 b0 0 A.H 0 ∧ zS w3 b1 0 (A.bt s) 0 ∧ zT w3 b2 0 (aQ : Int) ∧ zS w3 b3 0 (A.bc s) 0 ∧ zT w3 b4 0 (er : Int) ∧ w3.cell? (J (A.bt s) 7) = some (.map (some (A.bm s))) ∧ w3.cell? (J (A.bt s) 6) = some (A2.eH s) ∧
     (∃ av cap,A2.eH s=.slice av t.keys.length cap)∧(∀ k,k<t.keys.length->∀ g cap,A2.eH s=.slice (some (J g 0)) t.keys.length cap->w3.cell? (J g k)=zt (t.keys.getD k 0:Int))∧(∀ k,k<t.keys.length->∃ g cap,A2.eH s=.slice (some (J g 0)) t.keys.length cap)∧
     (∀ F x,t.cell F=some x->(Instr.lookup 116 (.map (some (A.bm s))) (I F) false).run Tryz.prog w3=.ok (R (A.bx s F) 0) w3∧zV w3 (A.bx s F) 1 x.old)∧
     zk 126 #[R (A.bt s) 0] w3.drew (fun e E=>e=.returned (zu ((mine t:Nat):Int))∧E=w3.drew)):=by
  intro A2 w2 q g st hbx w3 hb;have r3:=q.below hb;have gg:=g.trans (Grow.below (L:=A2.L) hb);have a7:=r3.fw ht2 7 (v:=.map (some (A2.bm s))) rfl;have a6:=r3.fw ht2 6 (v:=A2.eH s) rfl;rw[st.bt] at a7 a6;rw[st.bm] at a7;have aU:=r3.mem.all (.keys s);rw[mem_keys ht2,hk2] at aU;obtain⟨av,cap,hv,_⟩:=Ow.bN aU.1;have hget:∀ k,k<t.keys.length->(t.keys.map i64)[k]? =some (i64 (t.keys.getD k 0)):=fun k Z=>by simp[List.getD,Z]
  have Uq:=flip (qz r3.drew s t2 ht2 (by omega) (by omega));rw[st.bt,show mine t2=mine t by unfold mine;rw[Lf]] at Uq;refine⟨(B0.grow gg).cell,(B1.grow gg).cell,(B2.grow gg).cell,(B3.grow gg).cell,(B4.grow gg).cell,a7,a6,⟨av,cap,hv⟩,fun k Z g' cap' hv'=>?_,fun k Z=>?_,fun F x hx=>?_,Uq⟩
  . obtain⟨g1,xc,hv1,hc1⟩:=kZ aU.1 (hget k Z)
    rw[hv'] at hv1;obtain⟨rfl,_⟩:g'=g1∧cap'=xc:=by simpa using hv1
    exact hc1
  . obtain⟨g1,xc,hv1,hc1⟩:=kZ aU.1 (hget k Z)
    exact⟨g1,xc,hv1⟩
  . have hx2:t2.cell F=some x:=by unfold bL.cell at hx ⊢;rw[hc2];exact hx
    have hl:=fZ r3 ht2 F;have hpx:A2.px s t2 F=R (A2.bx s F) 0:=by unfold au.px;rw[hx2];rfl
    rw[hpx,hbx,st.bm] at hl;obtain⟨x0,x1,x2⟩:=r3.Fb ht2 hx2;rw[hbx] at x1;exact⟨hl,x1⟩
 have HF:Hid (∀ E,zk 127 #[] E fun e Y=>e=.returned (zu ((ever:Nat):Int))∧Y=E):=fun E=>flip (Word.qp E)
 have Wi:Hid (∀ A2 w2,aC A2 aD w2->bT A A2 s->∀ w3 av m cap,Below w2.heap.size w2 w3->w3.ownsRow w2.heap.size 234 3 (.slice av m cap) m (lW (t.keys.flatMap (lZ t)))->zk 128 #[R A.H 0,R (A.bt s) 0,R (A.bc s) 0,.slice av m cap,.agg #[I er,I 0,.slice none 0 0,I 4,I aQ]] w3 (bE A2 w3 s (aD,.turns (t.keys.flatMap (lZ t)) {e:=er,over:=4,aQ:=aQ}))):=by
  intro A2 w2 q st w3 av m cap hb ho;have h:=Dw (q.below hb) s (t.keys.flatMap (lZ t)) (.slice av m cap) (vI ho q.mem.fresh) {e:=er,over:=4,aQ:=aQ} er 0 4 aQ (.slice none 0 0) rfl (.inr ⟨rfl,rfl⟩);rw[st.H,st.bt,st.bc] at h;exact h
 have HS:Hid (∀ (l:Nat),VL D l->∀ w,zk 85 #[zu l,I 1] w fun e E=>e=.returned (I ((af l 1:Nat):Int))∧E=w):=fun l hv E=>flip (eQ l 1 1 rfl hv.lo (by have:=hv.hi;have:=hR.sl;omega) hv.u (by omega) E)
 have HKK:=zH (zA hK hkl);clear hR ht hm hen hid hi1 hkl hK htl aL B0 B1 B2 B3 B4 aX yY ht2 hk2 hc2 Lf;go_enter Tryz.func124,Tryz.ntmps124;go_wp2_with fail;refine wp_region_still_tail 15 (by kernel_rfl) (by kernel_rfl) ?_;simp only[jS,jT,jU,jV]
 repeat still_step
 still_call HP.out
 repeat still_step
 still_call HA.out
 refine wpStill_nil ?_;change wpList _ _ _ _ _ w.drew;generalize w.drew=wd at*;go_wp2_with (go_at_call 47;refine HL.out.mono ?_;rintro e Y ⟨rfl,q1,q2⟩;have g1:=HG.out.trans q2;obtain⟨hf,d0,d1,d2,d3⟩:=HB1.out Y q1 g1;have HQ:=zH (zA hf (g1.trans (Grow.drew _ _)));clear q1 q2 g1 hf);refine wp_region_still_tail 9 (by kernel_rfl) (by kernel_rfl) ?_;simp only[jS,jT,jU,jV]
 repeat still_step
 refine wpStill_nil ?_;change wpList _ _ _ _ _ Y.drew;generalize Y.drew=Tt at*;go_wp2_with (first|(go_at_call 125;refine HQ.out.1.mono ?_;rintro e w2 ⟨rfl,A2,q1,q2,q3,q4,q5⟩;obtain⟨y0,y1,y2,y3,y4,y7,y6,⟨kv,kc,Q8⟩,_,_,_,_⟩:=HB2.out A2 w2 q1 (HQ.out.2.trans q2) q3 q4 w2 (Below.refl _ _);rw[Q8] at y6;have H2:=zH (zA q1 (zA (HQ.out.2.trans q2) (zA q3 (zA q4 Q8))));clear q1 q2 q3 q4 q5 Q8))
 go_loopw [6,41] (fun l i wr=>∃ k:Nat,k<=t.keys.length∧i=I k∧Below w2.heap.size w2 wr∧∃ av cap,l=.slice av ((t.keys.take k).flatMap (lZ t)).length cap∧wr.ownsRow w2.heap.size 234 3 l ((t.keys.take k).flatMap (lZ t)).length (lW ((t.keys.take k).flatMap (lZ t)))) (fun _ i _=>t.keys.length - (intOf i).toNat)
 case atStart=>
  exact⟨0,zz _,rfl,Below.refl _ _,none,0,rfl,rfl,.inl ⟨rfl,rfl⟩⟩
 case round=>
  obtain⟨k,Z,rfl,hb,av,cap,rfl,aU⟩:=hrel;have hm0:=vJ (lZ t) (BG t) (t.keys.take k)
  by_cases hlt:k<t.keys.length
  . obtain⟨x0,x1,x2,x3,x4,x7,x6,_,hget,hform,Lg,Uq⟩:=HB2.out A2 w2 H2.out.1 H2.out.2.1 H2.out.2.2.1 H2.out.2.2.2.1 wr hb
    obtain⟨g,cap',hv⟩:=hform k hlt;obtain⟨rfl,rfl⟩:kv=za g 0∧kc=cap':=by have:=H2.out.2.2.2.2.symm.trans hv;simpa using this
    have hke:=hget k hlt g kc hv;obtain⟨x,hx,ho1,ho2⟩:=HKK.out.1 (t.keys.getD k 0) (by simp[List.getD,hlt]);obtain⟨hlk,SS⟩:=Lg _ x hx;have hfs:=zU (lZ t) t.keys k hlt;have Ua:lZ t (t.keys.getD k 0)=(if x.old≠0 then [⟨af x.old 1,mine t,ever⟩] else []):=by unfold lZ;rw[hx];rfl
    rw[Ua] at hfs;have hlen:(t.keys.take k).length<=1000000:=by have:=HKK.out.2;simp;omega
    have HM:=zH Uq;have HO:=zH (zA ho2 (zA hlt hfs));have Q6:(k:Int)<(t.keys.length:Int):=by omega
    have n1:IntKind.i64.wrap ((k:Int)+1)=(k:Int)+1:=by rw[jG];have:=HKK.out.2;omega
    clear x0 x2 x3 x4 y0 y1 y2 y3 y4 y7 y6 hget hform Lg hv ho1 ho2 Ua hx Uq;generalize t.keys.getD k 0=F at*;generalize hxs:lW ((t.keys.take k).flatMap (lZ t))=xs at*;have OG:=zH hxs;clear hxs;generalize hmm:((t.keys.take k).flatMap (lZ t)).length=m at*;have Vu:=zH hmm;clear hmm hfs;have hm1:m<3000001:=by omega
    clear hm0 hlen Z;generalize A.bx s F=bx at*;generalize mine t=mt at*
    by_cases hl:x.old≠0
    . have hl':x.old≠0:=hl
      obtain⟨e1,e2,e3,e4,e5⟩:=rf (x:=x.old) (c:=0) (ci:=0) (by omega);have Y4:=zH (fun E=>HS.out x.old (HO.out.1.resolve_left hl) E);have hfs:=HO.out.2.2;simp only[aV hl] at hfs;have tL:=zH hfs;have HOW:=zH (zA aU hb);clear hfs hl hl' aU hb;generalize af x.old 1=V5 at*;go_wp2_with fail
      go_region_law (first|(refine Lv wr _ _ _ rfl w2 HOW.out.2 av m cap xs rfl HOW.out.1 (by omega) (V5:Int) (mt:Int) ((ever:Nat):Int) rfl rfl ?_;intro mr gp wl ql pl;have Ko:=zH (zA ql pl);clear ql pl)|(go_simp;go_at_call 85;refine (Y4.out _).mono ?_;rintro e E ⟨rfl,rfl⟩)|(go_simp;go_at_call 126;refine HM.out.mono ?_;rintro e E ⟨rfl,rfl⟩)|(go_simp;go_at_call 127;refine (HF.out _).mono ?_;rintro e E ⟨rfl,rfl⟩))
      all_goals
       go_wp2_with fail
       go_roundw
       case rel=>
        refine⟨k+1,by have:=HO.out.2.1;omega,rfl,Ko.out.2,mr,gp,?_,?_⟩
        . rw[tL.out,jR,Vu.out];rfl
        . rw[tL.out,jR,Vu.out,jD,OG.out];exact Ko.out.1
       case measure=>have:=HO.out.2.1;simp[intOf];omega
    . have ho0:x.old=0:=by omega
      obtain⟨e1,e2,e3,e4,e5⟩:=uA (x:=x.old) (c:=0) (ci:=0) (by omega);have hfs:=HO.out.2.2;simp only[aR hl,List.append_nil] at hfs;have tL:=zH hfs;clear hfs hl ho0;go_wp2_with fail
      go_roundw
      case rel=>exact⟨k+1,by have:=HO.out.2.1;omega,rfl,hb,av,cap,by rw[tL.out,Vu.out],by rw[tL.out,Vu.out,OG.out];exact aU⟩
      case measure=>have:=HO.out.2.1;simp[intOf];omega
  . obtain rfl:k=t.keys.length:=by omega
    rw[List.take_length] at aU ⊢;obtain⟨x0,x1,x2,x3,x4,x7,x6,_⟩:=HB2.out A2 w2 H2.out.1 H2.out.2.1 H2.out.2.2.1 H2.out.2.2.2.1 wr hb;have HE:=zH (zA (Wi.out A2 w2 H2.out.1 H2.out.2.2.1 wr av _ cap hb aU) (Grow.below (L:=A2.L) hb));clear aU hb hlt Z hm0;generalize (t.keys.flatMap (lZ t)).length=m at*;go_wp2_with (go_at_call 128;refine HE.out.1.mono ?_;rintro e w4 ⟨A3,v,rfl,p1,p2,p3,p4⟩);go_ret;exact⟨A3,v,rfl,p1,(H2.out.2.1.trans HE.out.2).trans p2,H2.out.2.2.1.trans p3,p4⟩
theorem FY (hL:Live A D w) (s:Nat) (hs:s<8) (t:bL) (ht:D.aj.getD s none=some t) (c:dN) (hc:D.calls.getD s none=some c) (k:K) (Z:c.k=some k) (aL:D.count<3000000000000000000) (aD:St) (ok:Option K) (aX:(D.aK s {c with waits:=false}).run s k=(aD,ok)) (HS:Bw (D.aK s {c with waits:=false}) s k) (c2:dN) (hc2:aD.calls.getD s none=some c2) (dl:Nat) (hdl:aD.count=D.count+dl) (hd1:dl<1000000) (hlk:aD.aI<1000000000000000000) (hcq:∀ q,q≠s->aD.calls.getD q none=D.calls.getD q none) (t2:bL) (ht2:aD.aj.getD s none=some t2) (htl:aD.aT.length<1000000) (hok:ok=none) (hw:c2.waits=false) (hov:c2.over=true) (hpr:c2.r.aO.length<=1000000) (hro:c2.r.over=0):
 zk 34 #[R A.H 0,I s] w (Stepped A w (({aD.aK s {c2 with k:=ok} with aI:=aD.aI+dl,calls:=(aD.aK s {c2 with k:=ok}).calls.set s none}:St).event {kind:=2,t:=t2.id,op:=c2.op,res:=c2.r}) 3 c2.r):=by
 have Ns:Hid (aD.sw=D.sw∧aD.cut=D.cut):=zH (by have h:=FK (D.aK s {c with waits:=false}) s k;rw[aX] at h;exact h);obtain⟨Q,hQ⟩:∃ Q,Q=Stepped A w (({aD.aK s {c2 with k:=ok} with aI:=aD.aI+dl,calls:=(aD.aK s {c2 with k:=ok}).calls.set s none}:St).event {kind:=2,t:=t2.id,op:=c2.op,res:=c2.r}) 3 c2.r:=⟨_,rfl⟩
 rw[<-hQ];have HQ:=zH hQ;clear hQ;obtain⟨r0,g0,fl,fh⟩:=hL.rep.rT (.cells #[I 0,I 0,I 0,.slice none 0 0,I 0,I 0] 81);obtain⟨uB,k0,hk0,hkr⟩:=hL.call s hs c hc;obtain rfl:k=k0:=by rw[Z] at hk0;exact zj hk0
 obtain⟨fv,fb,fc,Jo,hent⟩:=hkr.enter;have gH:=zH (fI s hs);have b1:(s:Int)<8:=by omega
 have b0:(0:Int)<=(s:Int):=by omega
 have v0:(w.alloc (.cells #[I 0,I 0,I 0,.slice none 0 0,I 0,I 0] 81)).cell? (J A.H (13+s))=zs (A.bc s) 0:=by rw[<-show A.bF s=R (A.bc s) 0 from uB];exact r0.df (13+s) (dP (A.tmp w.heap.size) D hs)
 have v1:(w.alloc (.cells #[I 0,I 0,I 0,.slice none 0 0,I 0,I 0] 81)).cell? (J A.H (5+s))=zs (A.bt s) 0:=by
  have h:=r0.df (5+s) (dI (A.tmp w.heap.size) D hs);have e:(A.tmp w.heap.size).tp D s=R (A.bt s) 0:=by unfold au.tp;rw[ht];rfl
  rw[e] at h;exact h
 obtain⟨aH,mE⟩:∃ aH,aH=D.aK s {c with waits:=false}:=⟨_,rfl⟩
 rw[<-mE] at aX HS;have hc1:aH.calls.getD s none=some {c with waits:=false}:=by rw[mE,dm (bP hc),aV rfl]
 have hkp:kp A aH s=kp A D s:=by unfold kp;rw[bu hc1,bu hc]
 have H5:Hid (∀ n w5,(w.alloc (.cells #[I 0,I 0,I 0,.slice none 0 0,I 0,I 0] 81)).drewN n=w5->zB w5 (A.bc s) 10 c.waits∧w5.frozen? (J (A.bc s) 10)=false∧∀ w6,w5.setCell (J (A.bc s) 10) (.bool false)=w6->zS w6 A.H 2 A.ba 0∧w6.cell? (J (A.bc s) 4)=some (.func (.func fv) fb fc)∧zk 71 #[R A.ba 0] w6 (fun e E=>e=.returned (I (D.count:Int))∧w6=E)∧zk fv (fb++fc) w6 (kY (A.tmp w.heap.size) w6 s (aD,ok))∧Grow A.L w (A.tmp w.heap.size).L w6∧((A.tmp w.heap.size).L w.heap.size=some .tmp∧w6.heap[w.heap.size]? =some (.cells #[I 0,I 0,I 0,.slice none 0 0,I 0,I 0] 81))):=by
  rintro n w5 rfl;have r5:=r0.drewN n;refine⟨r5.call hc 10 rfl,r5.qh hc 10,?_⟩;rintro w6 rfl;obtain⟨r6,g6⟩:=r5.sK hc {c with waits:=false} 10 (.bool false) rfl rfl;have yR:=(Grow.drewN (A.tmp w.heap.size).L (w.alloc (.cells #[I 0,I 0,I 0,.slice none 0 0,I 0,I 0] 81)) n).trans g6;have gg:=g0.trans yR;rw[<-mE] at r6;have h4:_=some (A.bA s):=r6.call hc1 4 rfl;rw[Jo] at h4;have h4':(((w.alloc (.cells #[I 0,I 0,I 0,.slice none 0 0,I 0,I 0] 81)).drewN n).setCell (J (A.bc s) 10) (.bool false)).cell? (J (A.bc s) 4)=some (.func (.func fv) fb fc):=h4;have Qd:=(hkr.grow gg)
  rw[Jo,<-hkp] at Qd;have hS:=HS (A.tmp w.heap.size) _ fv fb fc r6 hL.mp (hL.mt s) Qd;rw[aX] at hS;have hcn:=iX r6 (by rw[mE];exact Nat.lt_trans aL (by decide));have hcc:aH.count=D.count:=by rw[mE];rfl
  rw[hcc] at hcn;exact⟨r6.df 2 rfl,h4',hcn,hS,gg,dW ⟨fl,fh⟩ yR⟩
 have uC:=zH hL;have HF:=zH (zA hc2 (zA hdl (zA hcq (zA hs hlk))));have n1:IntKind.i64.wrap (((D.count+dl:Nat):Int) - (D.count:Int))=(dl:Int):=by rw[jG];omega
 have n2:IntKind.i64.wrap ((aD.aI:Int)+(dl:Int))=((aD.aI+dl:Nat):Int):=by rw[jG];omega
 have H7 : Hid (∀ A2 w2 v A3, A3 = { A2 with bA := kS A2.bA s v } -> aC A2 aD w2 -> bT (A.tmp w.heap.size) A2 s -> w2.cell? (J (A.bc s) 4) = some (A2.bA s) ∧ w2.frozen? (J (A.bc s) 4) = false ∧ ∀ w3, w2.setCell (J (A.bc s) 4) v = w3 -> zT w3 A.H 23 (aD.aI : Int) ∧ w3.frozen? (J A.H 23) = false ∧ zS w3 A.H 2 A.ba 0 ∧ zk 71 #[R A.ba 0] w3.drew (fun e E => e = .returned (I ((D.count + dl : Nat) : Int)) ∧ E = w3.drew) ∧
     ∀ w4,w3.drew.setCell (J A.H 23) (I ((aD.aI+dl:Nat):Int))=w4->aC A3 ({aD.aK s {c2 with k:=ok} with aI:=aD.aI+dl}) w4∧Grow A2.L w2 A2.L w4∧zB w4 (A.bc s) 10 c2.waits∧zB w4 (A.bc s) 11 c2.over):=by
  intro A2 w2 v A3 hA3 q st;have xu:A2.bc=A.bc:=st.bc;have Qe:A2.H=A.H:=st.H;have Uc:A2.ba=A.ba:=st.ba;have x4:=q.call hc2 4 (v:=A2.bA s) rfl;have z4:=q.qh hc2 4;rw[xu] at x4 z4;refine⟨x4,z4,?_⟩;rintro w3 rfl;obtain⟨r3,g3⟩:=q.sQ hc2 v ok;rw[<-hA3,xu] at r3;rw[xu] at g3;have e3:A3.H=A.H:=by rw[hA3];exact Qe
  have Ud:A3.ba=A.ba:=by rw[hA3];exact Uc
  have Ue:A3.bc=A.bc:=by rw[hA3];exact xu
  have Uf:A3.L=A2.L:=by rw[hA3]
  have y23:=r3.df 23 (v:=I (aD.aI:Int)) rfl;have z23:=r3.iC 23;have y2:=r3.df 2 (v:=R A3.ba 0) rfl;have hcn:=flip (iX r3.drew (by show aD.count<_;omega));rw[e3] at y23 z23 y2;rw[Ud] at hcn y2;rw[show (aD.aK s {c2 with k:=ok}).count=D.count+dl from hdl] at hcn;refine⟨y23,z23,y2,hcn,?_⟩;intro w4 hw4;obtain⟨r4,g4⟩:=r3.drew.sO (aD.aI+dl);rw[e3,hw4] at r4 g4;rw[Uf] at g4;have hc4:({aD.aK s {c2 with k:=ok} with aI:=aD.aI+dl}:St).calls.getD s none=some {c2 with k:=ok}:=by show (aD.aK s {c2 with k:=ok}).calls.getD s none=_;rw[dm (bP hc2),aV rfl]
  have FL:=r4.call hc4 10 (v:=.bool c2.waits) rfl;have Im:=r4.call hc4 11 (v:=.bool c2.over) rfl;rw[Ue] at FL Im;exact⟨r4,(g3.trans (Grow.drew _ _)).trans g4,FL,Im⟩
 have hwx:(w.alloc (.cells #[I 0,I 0,I 0,.slice none 0 0,I 0,I 0] 81)).cell? (J (A.bc s) 10)=zb c.waits:=r0.call hc 10 rfl;have Vt:=zH uB;clear hL ht hc Z aL aX HS hc2 hdl hd1 hlk hcq r0 g0 fl fh uB hk0 hkr Jo mE hc1 hkp hs;generalize (D.count:Int)=ca at*;generalize ((D.count+dl:Nat):Int)=cb at*;generalize ((aD.aI+dl:Nat):Int)=lb at*;go_enter Tryz.func34,Tryz.ntmps34;go_wp2_with (go_at_call 40;refine (gH.out _).mono ?_;rintro e E ⟨rfl,rfl⟩);generalize hw0:w.alloc _=w0 at*
 go_quiet (fail)
 generalize iZ:w0.drewN _=w5;obtain⟨SN,Kn,h6⟩:=H5.out _ w5 iZ;obtain⟨y2,y4,hcn,hS,gg,fD⟩:=h6 _ rfl;have HC:=zH hcn;have HX:=zH (zA hS (zA gg fD));clear hcn hS gg fD h6 iZ hw0 H5 v0 v1 hwx;go_wp2_with (go_at_call 71;refine HC.out.mono ?_;rintro e E ⟨rfl,rfl⟩);refine HX.out.1.mono ?_;rintro e w2 ⟨A2,v,rfl,q1,q2,q3,q4⟩;subst hok;have hv:v=.nilFunc:=q4;clear q4;subst hv;obtain⟨x4,z4,h3⟩:=H7.out A2 w2 .nilFunc _ rfl q1 q3;obtain⟨y23,z23,y2',hcn,h4⟩:=h3 _ rfl;have Ug:=zH hcn;have Io:=zH (zA q1 (zA q2 (zA q3 h4)));clear hcn h3 h4 q1 q2 q3 H7 SN Kn y2 y4;go_wp2_with fail;generalize hw3:w2.setCell (J (A.bc s) 4) .nilFunc=w3 at*;refine wp_region_still_tail 14 (by kernel_rfl) (by kernel_rfl) ?_;simp only[jS,jT,jU,jV]
 repeat still_step
 still_call Ug.out
 repeat still_step
 refine wpStill_nil ?_;change wpList _ _ _ _ _ w3.drew;have Uh:w3.drew.cell? (J A.H 23)=zt (aD.aI:Int):=y23;have Ui:w3.drew.frozen? (J A.H 23)=false:=z23;generalize w3.drew=wd at*;obtain⟨r4,g4,FL,Im⟩:=Io.out.2.2.2 _ rfl;rw[hw] at FL;rw[hov] at Im;obtain⟨hc2,hdl,hcq,hs,_⟩:=HF.out;have q3:=Io.out.2.2.1;have hc4:({aD.aK s {c2 with k:=none} with aI:=aD.aI+dl}:St).calls.getD s none=some {c2 with k:=none}:=by show (aD.aK s {c2 with k:=none}).calls.getD s none=_;rw[dm (bP hc2),aV rfl]
 obtain⟨A4,Rj⟩:∃ A4:au,A4={A2 with bA:=kS A2.bA s .nilFunc}:=⟨_,rfl⟩
 rw[<-Rj] at r4;have Rk:A4.H=A.H:=by rw[Rj];exact q3.H
 have Wp:A4.L=A2.L:=by rw[Rj]
 have m13:=r4.df (13+s) (dP A4 _ hs);have Km:=r4.iC (13+s);obtain⟨r5,g5⟩:=r4.sP hs (.pointer none);obtain⟨A5,Rl⟩:∃ A5:au,A5={A4 with bF:=kS A4.bF s (.pointer none)}:=⟨_,rfl⟩
 rw[<-Rl,Rk] at r5;rw[Rk] at g5 m13 Km;have Wq:A5.L=A2.L:=by rw[Rl];exact Wp
 rw[Wp] at g5;have Iu:zW A A5 s:=by
  rw[Rl,Rj];exact⟨q3.bf,q3.mp,q3.mt,fun q _=>congrFun q3.bt q,fun q _=>congrFun q3.bc q,q3.bx,q3.aY,fun q hq=>(bH _ _ hq).trans (congrFun q3.bA q),fun q hq=>(bH _ _ hq).trans (congrFun q3.bF q)⟩
 have Rm:A5.bt=A.bt:=by rw[Rl,Rj];exact q3.bt
 have OZ:A5.bc=A.bc:=by rw[Rl,Rj];exact q3.bc
 have Vv:A5.bF s=.pointer none:=by rw[Rl];exact lU _ _ _
 have m8:=r5.call hc4 8 (v:=I c2.r.over) rfl;have aU:=r5.mem.all (.aO s);rw[iI (A:=A5) hc4] at aU;obtain⟨pa,yZ,hpv,_⟩:=Ow.bN aU.1;obtain⟨np,Vw⟩:∃ np,np=c2.r.aO.length:=⟨_,rfl⟩
 rw[show ({c2 with k:=none}:dN).r.aO.length=np from Vw.symm] at hpv;rw[OZ] at m8;rw[show (c2.r.over:Int)=0 by rw[hro];rfl] at m8;have Wt:∀ (A6:au) (Qh:St) E,aC A6 Qh E->A6.bt=A.bt->A6.bc=A.bc->A6.aY=A5.aY->Qh.aj.getD s none=some t2->Qh.calls.getD s none=some {c2 with k:=none}->zT E (A.bt s) 0 t2.id∧zT E (A.bc s) 0 c2.op.kind∧zT E (A.bc s) 1 c2.op.F∧zT E (A.bc s) 2 c2.op.hi∧zT E (A.bc s) 3 c2.op.value∧zT E (A.bc s) 5 c2.r.e∧zT E (A.bc s) 6 c2.r.value∧E.cell? (J (A.bc s) 7)=some (.slice pa np yZ)∧zT E (A.bc s) 8 c2.r.over∧zT E (A.bc s) 9 c2.r.aQ:=by
  intro A6 Qh E r b1 b2 b3 b4 b5;have x0:=r.fw b4 0 (v:=I t2.id) rfl;have y0:=r.call b5 0 (v:=I c2.op.kind) rfl;have y1:=r.call b5 1 (v:=I c2.op.F) rfl;have y2:=r.call b5 2 (v:=I c2.op.hi) rfl;have y3:=r.call b5 3 (v:=I c2.op.value) rfl;have y5:=r.call b5 5 (v:=I c2.r.e) rfl;have y6:=r.call b5 6 (v:=I c2.r.value) rfl;have y7:=r.call b5 7 (v:=A6.aY s) rfl;have y8:=r.call b5 8 (v:=I c2.r.over) rfl;have y9:=r.call b5 9 (v:=I c2.r.aQ) rfl;rw[b1] at x0;rw[b2] at y0 y1 y2 y3 y5 y6 y7 y8 y9;rw[b3,hpv] at y7;exact⟨x0,y0,y1,y2,y3,y5,y6,y7,y8,y9⟩
 have HE:Hid (∀ w6 va vc,aC A5 ({aD.aK s {c2 with k:=none} with aI:=aD.aI+dl}:St) w6->kW A5.L w6 (.slice va np vc) (bJ c2.r.aO)->zk 50 #[R A.H 0,.agg #[I 2,I t2.id,zu 0,I c2.op.kind,I c2.op.F,I c2.op.hi,I c2.op.value,I c2.r.e,I c2.r.value,.slice va np vc,I c2.r.over,I c2.r.aQ]] w6 (Does A5 w6 s (({aD.aK s {c2 with k:=none} with aI:=aD.aI+dl}:St).event {kind:=2,t:=t2.id,op:=c2.op,res:=c2.r}) (.tuple #[]))):=by
  intro w6 va vc r hp;have h:=mY r s {kind:=2,t:=t2.id,op:=c2.op,res:=c2.r} 2 t2.id 0 c2.op.kind c2.op.F c2.op.hi c2.op.value c2.r.e c2.r.value c2.r.over c2.r.aQ va np vc rfl hp htl;rw[Iu.H] at h;exact h
 have Yg:Hid (∀ (A6:au) (Qh:St) E,aC A6 Qh E->A6.aY=A5.aY->Qh.calls.getD s none=some {c2 with k:=none}->Ow.Row E 0 2 (.slice pa np yZ) (bJ c2.r.aO)):=by
  intro A6 Qh E r b3 b5;have h:=r.mem.all (.aO s);rw[iI (A:=A6) b5] at h;have h2:=tQ h.1;rw[b3,hpv] at h2;exact h2
 have Vx:=zH (zA Vw.symm (by rw[Vw];exact hpr:np<=1000000));have Yh:=zH Wt;have fD:=dW (dW (dW HX.out.2.2 Io.out.2.1) g4) g5;have HY:=zH (zA r5 (zA (g4.trans g5) (zA fD (zA hpr (zA hro (zA ht2 (zA hc4 (zA Iu (zA Rm (zA OZ (zA Vv Wq)))))))))));have S0:=Wt A5 _ _ r5 Rm OZ rfl ht2 hc4;clear Vw Wt r4 g4 r5 g5 fD aU hpv q3 hc4 hc2 hdl hcq hw hov hpr hro ht2 Rj Rl Rk Wp Wq Iu Rm OZ Vv htl;go_wp2_with fail;generalize iZ:World.setCell (World.setCell wd _ _) _ _=w5 at*;have Y5:Hid (∀ E,Below w5.heap.size w5 E->zT E (A.bt s) 0 t2.id∧zT E (A.bc s) 0 c2.op.kind∧zT E (A.bc s) 1 c2.op.F∧zT E (A.bc s) 2 c2.op.hi∧zT E (A.bc s) 3 c2.op.value∧zT E (A.bc s) 5 c2.r.e∧zT E (A.bc s) 6 c2.r.value∧E.cell? (J (A.bc s) 7)=some (.slice pa np yZ)∧zT E (A.bc s) 8 c2.r.over∧zT E (A.bc s) 9 c2.r.aQ):=fun E hb=>Yh.out A5 _ _ (HY.out.1.below hb) HY.out.2.2.2.2.2.2.2.2.1 HY.out.2.2.2.2.2.2.2.2.2.1 rfl HY.out.2.2.2.2.2.1 HY.out.2.2.2.2.2.2.1
 have Yi:Hid (∀ A7 E,aC A7 (({aD.aK s {c2 with k:=none} with aI:=aD.aI+dl}:St).event {kind:=2,t:=t2.id,op:=c2.op,res:=c2.r}) E->bT A5 A7 s->A7.aY=A5.aY->zT E (A.bt s) 0 t2.id∧zT E (A.bc s) 0 c2.op.kind∧zT E (A.bc s) 1 c2.op.F∧zT E (A.bc s) 2 c2.op.hi∧zT E (A.bc s) 3 c2.op.value∧zT E (A.bc s) 5 c2.r.e∧zT E (A.bc s) 6 c2.r.value∧E.cell? (J (A.bc s) 7)=some (.slice pa np yZ)∧zT E (A.bc s) 8 c2.r.over∧zT E (A.bc s) 9 c2.r.aQ):=fun A7 E r st vp=>Yh.out A7 _ _ r (st.bt.trans HY.out.2.2.2.2.2.2.2.2.1) (st.bc.trans HY.out.2.2.2.2.2.2.2.2.2.1) vp HY.out.2.2.2.2.2.1 HY.out.2.2.2.2.2.2.1
 have HRW:Hid (∀ E,Below w5.heap.size w5 E->Ow.Row E 0 2 (.slice pa np yZ) (bJ c2.r.aO)):=fun E hb=>Yg.out A5 _ _ (HY.out.1.below hb) rfl HY.out.2.2.2.2.2.2.1
 have Y6:Hid (∀ b,w5.heap.size<=b->A5.L b=none):=HY.out.1.mem.fresh
 go_region_held3 (fun E=>zT E (A.bt s) 0 t2.id∧zT E (A.bc s) 0 c2.op.kind∧zT E (A.bc s) 1 c2.op.F∧zT E (A.bc s) 2 c2.op.hi∧zT E (A.bc s) 3 c2.op.value∧zT E (A.bc s) 5 c2.r.e∧zT E (A.bc s) 6 c2.r.value∧E.cell? (J (A.bc s) 7)=some (.slice pa np yZ)∧zT E (A.bc s) 8 c2.r.over∧zT E (A.bc s) 9 c2.r.aQ)
  (first|exact S0|assumption|exact Y5.out _ (by assumption)|exact Yi.out _ _ (by assumption) (by assumption) (by assumption))
  (first|(go_at_call 53;refine (rX _ _ _ _ _ _ _ _ c2.r.aO (HRW.out _ ((Below.refl _ w5).drew)) Vx.out.1 Vx.out.2).mono ?_;rintro e w6 ⟨ca,cc,rfl,ho,hb⟩;have hb5:Below w5.heap.size w5 w6:=((Below.refl _ w5).drew).trans hb;have Y7:kW A5.L w6 (.slice ca np cc) (bJ c2.r.aO):=vL ho (fun b h _=>Y6.out b h);clear hb ho)|(go_at_call 50;refine (HE.out _ _ _ (HY.out.1.below (by assumption)) (by assumption)).mono ?_;rintro e w7 ⟨rfl,A7,p1,p2,p3,p4,p5⟩))
 obtain⟨_,_,_,_,_,s5,s6,s7,s8,s9⟩:=Yi.out _ _ p1 p3 p5;rw[HY.out.2.2.2.2.2.2.2.2.2.2.2] at p2;have Ur:=zH (dW (dW HY.out.2.2.1 (Grow.below (L:=A2.L) hb5)) p2);have H7:=zH (zA p1 (zA ((Grow.below (L:=A2.L) hb5).trans p2) (zA p3 (zA p4 p5))));have Y8:=zH (Yg.out A7 _ _ p1 p5 HY.out.2.2.2.2.2.2.1);have Y9:=zH p1.mem.fresh;clear p1 p2 p3 p4 p5 hb5 S0 Y7;go_wp2_with (first|(go_at_call 53;refine (rX _ _ _ _ _ _ _ _ c2.r.aO Y8.out Vx.out.1 Vx.out.2).mono ?_;rintro e w8 ⟨da,dc,rfl,Yj,xA⟩;have Za:=zH Yj;clear Yj;have Wu:=zH xA;have tJ:=zH (gM (dW Ur.out (Grow.below (L:=A7.L) xA)).2);clear xA)|(refine wpList_store_mid rfl 81 (.tmp 4) (.tmp 115) rfl w.heap.size 0 #[I 3,I c2.r.e,I c2.r.value,.slice da np dc,I c2.r.over,I c2.r.aQ] rfl rfl tJ.out (by kernel_rfl) (by simp[Value.oneCell']) ?_;generalize hws:World.setCells _ _ _ _=ws));have fQ:=But.setCells w.heap.size [I 3,I c2.r.e,I c2.r.value,.slice da np dc,I c2.r.over,I c2.r.aQ] 0 w8;have fD:=dW Ur.out (Grow.below (L:=A7.L) Wu.out);have hfin:=kJ fD.2 (I 3) (I c2.r.e) (I c2.r.value) (.slice da np dc) (I c2.r.over) (I c2.r.aQ);rw[show w8.setCells w.heap.size 0 [I 3,I c2.r.e,I c2.r.value,.slice da np dc,I c2.r.over,I c2.r.aQ]=ws from hws] at fQ hfin
 (try simp only[Exit.inBlock,Exit.then])
 refine bodyPost_ret (eD rfl _ _ w.heap.size 81 #[I 3,I c2.r.e,I c2.r.value,.slice da np dc,I c2.r.over,I c2.r.aQ] _ _ rfl hfin Tryz.underlying81 rfl (by kernel_rfl)) rfl ?_;rw[HQ.out];obtain⟨hc2,hdl,hcq,hs,_⟩:=HF.out;obtain⟨q1,q2,q3,_⟩:=Io.out;obtain⟨_,g5,_,hpr,_,_,_,Iu,_,_,Vv,Wq⟩:=HY.out;obtain⟨p1,p2,p3,p4,p5⟩:=H7.out;have r7:=((p1.below Wu.out).Cz s).but fD.1 fQ;have gg:=(((((HX.out.2.1.trans q2).trans g5).trans p2).trans (Grow.below (L:=A7.L) Wu.out)).but (zr _) fQ)
 have hlen:s<(aD.aK s {c2 with k:=none}).calls.length:=by have:=bP hc2;simpa [St.aK] using this
 have hns:((aD.aK s {c2 with k:=none}).calls.set s none).getD s none=none:=by rw[kH _ _ _ _ _ hlen,aV rfl]
 refine⟨A7,.slice da np dc,rfl,(vL (BA Za.out fQ fD.2 (by decide)) (fun b h _=>Y9.out b h)).1,Live.of (s:=s) uC.out Ns.out r7 gg ⟨p3.bf.trans Iu.bf,p3.mp.trans Iu.mp,p3.mt.trans Iu.mt,fun q hq=>(congrFun p3.bt q).trans (Iu.bt q hq),fun q hq=>(congrFun p3.bc q).trans (Iu.bc q hq),fun q hq=>(p3.bx q hq).trans (Iu.bx q hq),fun q hq=>(p3.aY q hq).trans (Iu.aY q hq),fun q hq=>(congrFun p3.bA q).trans (Iu.bA q hq),fun q hq=>(congrFun p3.bF q).trans (Iu.bF q hq)⟩ (fun q hq=>?_) (fun c' hcc=>?_) (fun hnn=>(congrFun p3.bF s).trans Vv),gg,p3.H.trans Iu.H⟩
 . show ((aD.aK s {c2 with k:=none}).calls.set s none).getD q none=_
   rw[kH _ _ _ _ _ hlen,aR hq,dm (bP hc2),aR hq];exact hcq q hq
 . have h0:=hns.symm.trans hcc
   cases h0
def fU (id az bg:Nat):bL:={id:=id,az:=az,aJ:=bg,aA:=0,ops:=0,keys:=[],cells:=[],reads:=[],aP:=[],over:=false}
theorem xB (D:St) (x:Nat):(D.dx x).count=D.count+1:=by unfold St.dx St.cB;split<;>rfl
theorem FZ (D:St) (x id:Nat):(D.dx x).place id=D.place id:=by unfold St.dx St.cB;split<;>rfl
theorem Jv (D:St) (x:Nat):(D.dx x).aT=D.aT:=by unfold St.dx St.cB;split<;>rfl
theorem zY (D:St) (i a b:Nat):(D.cB i a b).count=D.count+1:=by unfold St.cB;split<;>rfl
theorem zZ (D:St) (i a b id:Nat):(D.cB i a b).place id=D.place id:=by unfold St.cB;split<;>rfl
theorem DN (D:St) (i a b:Nat):(D.cB i a b).aj=D.aj:=by unfold St.cB;split<;>rfl
theorem Aa (D:St) (i a b:Nat):(D.cB i a b).calls=D.calls:=by unfold St.cB;split<;>rfl
theorem DR (D:St) (i a b:Nat):(D.cB i a b).aT=D.aT:=by unfold St.cB;split<;>rfl
def Lx (A:au) (w:World) (bB:St) (id:Nat):Ending->World->Prop:=fun e E=>∃ A',e=.returned (.tuple #[I id,I 0])∧Live A' bB E∧Grow A.L w A'.L E∧A'.H=A.H
theorem Jw (hL:Live A D w) (s:Nat) (hs:s<8) (az:Nat) (hl1:1<=az) (hl2:az<=3) (hn:D.aj.getD s none=none) (hcn:D.calls.getD s none=none) (hmd:D.aB<2000) (hx:D.word 0<18446744073709551616) (qb:ai (D.word 0)<281474976710000) (hlim:ai (D.word 0)<D.limit) (hlo:aZ (D.word 0)=0) (aL:D.count<3000000000000000000) (htl:D.aT.length<1000000):
 zk 9 #[R A.H 0,I s,I az] w (Lx A w (((((({D.tick with aB:=D.aB+1}:St).cB 0 (D.word 0) (aW (ai (D.word 0)+1) 0)).put (D.place (D.aB+1)) (pack 1 0)).put (1+s) (ai (D.word 0)+1)).bK s (fU (D.aB+1) az (ai (D.word 0)+1))).event {kind:=1,t:=D.aB+1,n:=ai (D.word 0)+1,op:=⟨0,0,0,az⟩}) (D.aB+1)):=by
 have hR:=hL.rep;generalize F8:({D.tick with aB:=D.aB+1}:St).cB 0 (D.word 0) (aW (ai (D.word 0)+1) 0)=dU;have zg:Hid (({D.tick with aB:=D.aB+1}:St).cB 0 (D.word 0) (aW (ai (D.word 0)+1) 0)=dU∧dU.place (D.aB+1)=D.place (D.aB+1)∧dU.aj=D.aj∧dU.calls=D.calls∧dU.aT=D.aT∧dU.count<3000000000000000010):=by
  refine⟨F8,?_,?_,?_,?_,?_⟩<;>rw[<-F8]
  . rw[zZ];rfl
  . rw[DN];rfl
  . rw[Aa];rfl
  . rw[DR];rfl
  . rw[zY];show D.count+1+1<_;omega
 clear F8;have b1:(s:Int)<8:=by omega
 have b0:(0:Int)<=(s:Int):=by omega
 have gH:=zH (fI s hs);have xC:=zH (wI az hl1 hl2);have e2:=hR.z2;have v5:=hR.df (5+s) (dI A D hs);rw[show A.tp D s=.pointer none by unfold au.tp;rw[hn]] at v5;have v21:w.cell? (J A.H 21)=zt (D.aB:Int):=hR.df 21 rfl;have d1:decide ((2000:Int)<=(D.aB:Int))=false:=by simp;omega
 have d2:((2000:Int)<=(D.aB:Int))=False:=by simp;omega
 have d3:(2000<=D.aB)=False:=by simp;omega
 have l1:decide ((D.limit:Int)<=(ai (D.word 0):Int))=false:=by simp;omega
 have l2:((D.limit:Int)<=(ai (D.word 0):Int))=False:=by simp;omega
 have l3:(D.limit<=ai (D.word 0))=False:=by simp;omega
 have k1:decide ((0:Int)<(aZ (D.word 0):Int))=false:=by simp;omega
 have k2:((0:Int)<(aZ (D.word 0):Int))=False:=by simp;omega
 have k3:(0<aZ (D.word 0))=False:=by simp;omega
 have n1:IntKind.i64.wrap ((D.aB:Int)+1)=(D.aB:Int)+1:=by rw[jG];omega
 have n2:IntKind.u64.wrap ((ai (D.word 0):Int)+1)=(ai (D.word 0):Int)+1:=by rw[IntKind.wrap_u64];omega
 have n3:IntKind.i64.wrap (1+(s:Int))=1+(s:Int):=by rw[jG];omega
 have Us:=zH (iK hR 0 0 rfl (by rw[hR.nw];omega) (by omega));have Ut:=zH (fun E=>kg (D.word 0) hx E);have H1:Hid (∀ Y,aC A D.tick Y->Grow A.L w A.L Y->zV Y A.H 1 (D.limit:Int)∧zT Y A.H 21 (D.aB:Int)∧Y.frozen? (J A.H 21)=false):=
  fun Y r g=>⟨r.df 1 rfl,r.df 21 rfl,r.iC 21⟩
 have hmm:∀ w,(Instr.makeMap 116 none).run Tryz.prog w=.ok (.map (some w.heap.size)) (w.alloc (.map #[] 0)):=fun w=>rfl
 have uC:=zH (zA hL (zA hs (zA hn (zA hcn (zA hmd (zA qb (zA aL (zA htl hx))))))));clear hL hs hl1 hl2 hn hcn hmd hx qb hlim hlo aL htl;clear hR;go_enter Tryz.func9,Tryz.ntmps9;go_wp2_with (first|(go_at_call 40;refine (gH.out _).mono ?_;rintro e E ⟨rfl,rfl⟩)|(go_at_call 41;refine (xC.out _).mono ?_;rintro e E ⟨rfl,rfl⟩)|(go_at_call 42;refine Us.out.mono ?_;rintro e Y ⟨rfl,q1,q2⟩;obtain⟨y1,y2,y3⟩:=H1.out Y q1 q2;have uK:=zH (zA q1 q2);clear q1 q2)|(go_at_call 43;refine (Ut.out _).mono ?_;rintro e E ⟨rfl,rfl⟩));obtain⟨hL,hs,hn,hcn,hmd,qb,aL,htl,hx⟩:=uC.out;obtain⟨r1,g1⟩:=uK.out;obtain⟨rm,gm⟩:=r1.Hq (D.aB+1);rw[show ((D.aB+1:Nat):Int)=(D.aB:Int)+1 from rfl] at rm gm;have hz3:(Y.setCell (J A.H 21) (I ((D.aB:Int)+1))).heap.size=Y.heap.size:=by simp[World.setCell]
 generalize hw3:Y.setCell (J A.H 21) (I ((D.aB:Int)+1))=w3 at*;generalize hw4:(w3.alloc (.map #[] 0)).alloc _=w4;have r4:aC A ({D.tick with aB:=D.aB+1}:St) w4:=by rw[<-hw4];exact (rm.alloc _).alloc _
 have Uu:Grow A.L w3 A.L w4:=by rw[<-hw4];exact (Grow.alloc _ _ _).trans (Grow.alloc _ _ _)
 have g4:Grow A.L w A.L w4:=(g1.trans gm).trans Uu;have Uv:w4.heap[Y.heap.size]? =some (.map #[] 0):=by rw[<-hw4,<-hz3];exact (Below.heap_alloc _ _ _ (by simp)).trans (heap_alloc_new w3 _)
 have hb4:w4.heap[Y.heap.size+1]? =some (.cells #[I ((D.aB:Int)+1),I az,I s,zu ((ai (D.word 0):Int)+1),zu 0,I 0,.slice none 0 0,.map (some Y.heap.size),.slice none 0 0,.slice none 0 0,.int .u32 0,.int .i32 0,.int .u32 0,.bool false] 131):=by rw[<-hw4,<-hz3];exact heap_alloc2_new w3 _ _
 have F9:A.L Y.heap.size=none:=by rw[<-hz3];exact rm.mem.fresh _ (zr _)
 have hbL:A.L (Y.heap.size+1)=none:=by rw[<-hz3];exact rm.mem.fresh _ (by omega)
 have hle:w.heap.size<=Y.heap.size:=g1.size;have F4:Fix A.L w4 (Y.heap.size+1) (.cells #[I ((D.aB:Int)+1),I az,I s,zu ((ai (D.word 0):Int)+1),zu 0,I 0,.slice none 0 0,.map (some Y.heap.size),.slice none 0 0,.slice none 0 0,.int .u32 0,.int .i32 0,.int .u32 0,.bool false] 131):=⟨hbL,hb4⟩
 have M4:Fix A.L w4 Y.heap.size (.map #[] 0):=⟨F9,Uv⟩
 have a2:=r4.df 2 (v:=R A.ba 0) rfl;have a3:=F4.cell 3 (v:=zu ((ai (D.word 0):Int)+1)) rfl;have Z:zk 46 #[zu ((ai (D.word 0):Int)+1),I 0] w4.drew fun e E=>e=.returned (zu ((aW (ai (D.word 0)+1) 0:Nat):Int))∧E=w4.drew:=flip (oI (ai (D.word 0)+1) 0 (by omega) (by omega) w4.drew)
 have HC:=zH Z;have LA:=zH (vE r4.drew 0 (D.word 0) (aW (ai (D.word 0)+1) 0) 0 rfl (by rw[r4.nw];omega) (by show D.count+1<_;omega));have H4:=zH (zA g4 (zA F4 (zA M4 (zA F9 (zA hbL hle)))));clear hL hs hn hcn hmd qb aL htl hx r1 g1 rm gm hz3 hw3 hw4 r4 Uu g4 Uv hb4 F9 hbL hle F4 M4 Z;refine wp_region_still_tail 10 (by kernel_rfl) (by kernel_rfl) ?_;simp only[jS,jT,jU,jV]
 repeat still_step
 still_call HC.out
 refine wpStill_nil ?_;change wpList _ _ _ _ _ w4.drew;have Wv:Hid (Grow A.L w4 A.L w4.drew):=Grow.drew _ _;generalize w4.drew=wd4 at*;go_wp2_with (go_at_call 45;refine LA.out.mono ?_;rintro e w5 ⟨rfl,q1,q2⟩);obtain⟨g4,F4,M4,F9,hbL,hle⟩:=H4.out;obtain⟨hL,hs,hn,hcn,hmd,qb,aL,htl,hx⟩:=uC.out;rw[zg.out.1] at q1;obtain⟨-,p4,LB,Jy,O0,LC⟩:=zg.out;have O1:=Wv.out.trans q2;have F5:=F4.grow O1;have M5:=M4.grow O1;have g5:=g4.trans O1;have a2:=q1.df 2 (v:=R A.ba 0) rfl;have a0:=F5.cell 0 (v:=I ((D.aB:Int)+1)) rfl;have hpl:zk 48 #[R A.H 0,I ((D.aB:Int)+1)] w5.drew fun e E=>e=.returned (I ((D.place (D.aB+1):Nat):Int))∧E=w5.drew:=by
  have h:=fu q1.drew (D.aB+1) (by omega);rw[p4] at h;exact h
 have Rn:=zH hpl;have SV:=zH (kX 1 0 1 0 rfl rfl (by omega) (by omega) w5.drew);have HST:=zH (fT q1.drew (D.place (D.aB+1)) (pack 1 0) (by rw[q1.nw];have:=q1.sl;have:=congrArg (fun x=>x) p4;unfold St.place at p4 ⊢;omega) (by omega));have H5:=zH (zA g5 (zA F5 (zA M5 q1)));clear hL hs hn hcn hmd qb aL htl hx g4 F4 M4 F9 hbL hle O1 F5 M5 g5 q1 q2 hpl p4 LB Jy O0 LC;refine wp_region_still_tail 11 (by kernel_rfl) (by kernel_rfl) ?_;simp only[jS,jT,jU,jV]
 repeat still_step
 still_call Rn.out
 still_call SV.out
 refine wpStill_nil ?_;change wpList _ _ _ _ _ w5.drew;have Ww:Hid (Grow A.L w5 A.L w5.drew):=Grow.drew _ _;generalize w5.drew=Zb at*;go_wp2_with (go_at_call 47;refine HST.out.mono ?_;rintro e w6 ⟨rfl,q1,q2⟩);obtain⟨g5,F5,M5,_⟩:=H5.out;obtain⟨hL,hs,hn,hcn,hmd,qb,aL,htl,hx⟩:=uC.out;have LC:=zg.out.2.2.2.2.2;have yR:=Ww.out.trans q2;have F6:=F5.grow yR;have M6:=M5.grow yR;have g6:=g5.trans yR;have a2:=q1.df 2 (v:=R A.ba 0) rfl;have a3:=F6.cell 3 (v:=zu ((ai (D.word 0):Int)+1)) rfl;have Wx:=zH (Bo q1.drew (1+s) (ai (D.word 0)+1) (1+(s:Int)) ((ai (D.word 0):Int)+1) (by omega) (by omega) (by rw[q1.nw];omega) (by show dU.count+1<_;omega));have H6:=zH (zA g6 (zA F6 M6));have HV5:Hid (∀ w7,aC A ((dU.put (D.place (D.aB+1)) (pack 1 0)).put (1+s) (ai (D.word 0)+1)) w7->w7.cell? (J A.H (5+s))=some (.pointer none)∧w7.frozen? (J A.H (5+s))=false):=by
  intro w7 r;have h:=r.df (5+s) (dI A _ hs);rw[show A.tp ((dU.put (D.place (D.aB+1)) (pack 1 0)).put (1+s) (ai (D.word 0)+1)) s=.pointer none by unfold au.tp;rw[show ((dU.put (D.place (D.aB+1)) (pack 1 0)).put (1+s) (ai (D.word 0)+1)).aj.getD s none=none by show dU.aj.getD s none=none;rw[zg.out.2.2.1];exact hn]] at h;exact⟨h,r.iC _⟩
 clear hL hs hn hcn hmd qb aL htl hx g5 F5 M5 yR F6 M6 g6 q1 q2 LC;refine wp_region_still_tail 10 (by kernel_rfl) (by kernel_rfl) ?_;simp only[jS,jT,jU,jV]
 repeat still_step
 refine wpStill_nil ?_;change wpList _ _ _ _ _ w6.drew;have Wy:Hid (Grow A.L w6 A.L w6.drew):=Grow.drew _ _;generalize w6.drew=Zc at*;go_wp2_with (go_at_call 47;refine Wx.out.mono ?_;rintro e w7 ⟨rfl,q1,q2⟩;obtain⟨m5,z5⟩:=HV5.out w7 q1;have H7:=zH (zA q1 q2);clear q1 q2);obtain⟨g6,F6,M6⟩:=H6.out;obtain⟨q1,q2⟩:=H7.out;obtain⟨_,_,_,F9,hbL,hle⟩:=H4.out;obtain⟨hL,hs,hn,hcn,hmd,qb,aL,htl,hx⟩:=uC.out;obtain⟨-,p4,LB,Jy,O0,LC⟩:=zg.out;have O3:=Wy.out.trans q2;have F7:=F6.grow O3;have M7:=M6.grow O3;have g7:=g6.trans O3;have Uw:((dU.put (D.place (D.aB+1)) (pack 1 0)).put (1+s) (ai (D.word 0)+1)).aj.getD s none=none:=by show dU.aj.getD s none=none;rw[LB];exact hn
 have hblk:w7.heap[Y.heap.size+1]? =some (.cells (eO (A.gB s (Y.heap.size+1) Y.heap.size) s (fU (D.aB+1) az (ai (D.word 0)+1))).toArray 131):=by
  rw[show (eO (A.gB s (Y.heap.size+1) Y.heap.size) s (fU (D.aB+1) az (ai (D.word 0)+1))).toArray=#[I ((D.aB:Int)+1),I az,I s,zu ((ai (D.word 0):Int)+1),zu 0,I 0,.slice none 0 0,.map (some Y.heap.size),.slice none 0 0,.slice none 0 0,.int .u32 0,.int .i32 0,.int .u32 0,.bool false] by simp[eO,au.gB,kS,jb,fU]];exact F7.2
 obtain⟨rA,gA⟩:=q1.Dx g7 F7.1 M7.1 hs (by omega) hle (by omega) (fU (D.aB+1) az (ai (D.word 0)+1)) rfl rfl rfl rfl hblk M7.2 Uw;obtain⟨A8,qE⟩:∃ A8:au,A8=A.gB s (Y.heap.size+1) Y.heap.size:=⟨_,rfl⟩
 rw[<-qE] at rA gA;have e8:A8.H=A.H:=by rw[qE];rfl
 have Ro:A8.bt s=Y.heap.size+1:=by rw[qE];exact aV rfl
 have wu:(((dU.put (D.place (D.aB+1)) (pack 1 0)).put (1+s) (ai (D.word 0)+1)).bK s (fU (D.aB+1) az (ai (D.word 0)+1))).aj.getD s none=some (fU (D.aB+1) az (ai (D.word 0)+1)):=by rw[dC (by show s<dU.aj.length;rw[LB,hL.rep.n8];exact hs),aV rfl]
 generalize hw8:World.setCell w7 _ _=w8 at*;have c0:=rA.fw wu 0 (v:=I ((D.aB:Int)+1)) rfl;have c3:=rA.fw wu 3 (v:=zu ((ai (D.word 0):Int)+1)) rfl;rw[Ro] at c0 c3;have hev:=mY rA.drew s {kind:=1,t:=D.aB+1,n:=ai (D.word 0)+1,op:=⟨0,0,0,az⟩} 1 ((D.aB:Int)+1) ((ai (D.word 0):Int)+1) 0 0 0 az 0 0 0 0 none 0 0 rfl (kW.nil _ _) (by show dU.aT.length<_;rw[O0];exact htl);rw[e8] at hev;have HE:=zH hev;have H8:Hid (∀ A9 w9,aC A9 ((((dU.put (D.place (D.aB+1)) (pack 1 0)).put (1+s) (ai (D.word 0)+1)).bK s (fU (D.aB+1) az (ai (D.word 0)+1))).event {kind:=1,t:=D.aB+1,n:=ai (D.word 0)+1,op:=⟨0,0,0,az⟩}) w9->bT A8 A9 s->w9.cell? ⟨Y.heap.size+1,0,none⟩=zt ((D.aB:Int)+1)):=by
  intro A9 w9 r st;have h:=r.fw (show ((((dU.put (D.place (D.aB+1)) (pack 1 0)).put (1+s) (ai (D.word 0)+1)).bK s (fU (D.aB+1) az (ai (D.word 0)+1))).event {kind:=1,t:=D.aB+1,n:=ai (D.word 0)+1,op:=⟨0,0,0,az⟩}).aj.getD s none=some (fU (D.aB+1) az (ai (D.word 0)+1)) from wu) 0 (v:=I ((D.aB:Int)+1)) rfl;rw[st.bt,Ro] at h;exact h
 have Wz:=zH (zA qE (zA gA (zA Jy wu)));clear hL hs hn hcn hmd qb aL htl hx g6 F6 M6 O3 F7 M7 g7 q1 q2 F9 hbL hle p4 LB Jy O0 LC Uw hblk rA gA qE e8 Ro wu hw8 hev m5 z5;refine wp_region_still_tail 12 (by kernel_rfl) (by kernel_rfl) ?_;simp only[jS,jT,jU,jV]
 repeat still_step
 refine wpStill_nil ?_;change wpList _ _ _ _ _ w8.drew;have WA:Hid (∀ L,Grow L w8 L w8.drew):=fun L=>Grow.drew _ _
 generalize w8.drew=Zd at*;go_wp2_with (go_at_call 50;refine HE.out.mono ?_;rintro e w9 ⟨rfl,A9,p1,p2,p3,p4,p5⟩;have t0:=H8.out A9 w9 p1 p3;have HP:=zH (zA p1 (zA p2 p3));clear p1 p2 p3 p4 p5)
 go_ret2
 obtain⟨p1,p2,p3⟩:=HP.out;obtain⟨qE,gA,Jy,wu⟩:=Wz.out;obtain⟨hL,hs,hn,hcn,_⟩:=uC.out;have gg:=(gA.trans (WA.out _)).trans p2;have hcl:∀ q,((((dU.put (D.place (D.aB+1)) (pack 1 0)).put (1+s) (ai (D.word 0)+1)).bK s (fU (D.aB+1) az (ai (D.word 0)+1))).event {kind:=1,t:=D.aB+1,n:=ai (D.word 0)+1,op:=⟨0,0,0,az⟩}).calls.getD q none=D.calls.getD q none:=fun q=>by show dU.calls.getD q none=_;rw[Jy]
 rw[zg.out.1.symm] at p1 ⊢;refine⟨A9,rfl,Live.of (s:=s) hL (kL ({D.tick with aB:=D.aB+1}:St) 0 (D.word 0) (aW (ai (D.word 0)+1) 0)) p1 gg ⟨p3.bf.trans (by rw[qE];rfl),p3.mp.trans (by rw[qE];rfl),p3.mt.trans (by rw[qE];funext k;show (if k=s then 0 else A.mt k)=A.mt k;by_cases Z:k=s;rw[aV Z,hL.mt k];rw[aR Z]),fun q hq=>by rw[p3.bt,qE];exact aR hq,fun q _=>by rw[p3.bc,qE];rfl,fun q hq=>(p3.bx q hq).trans (by rw[qE];rfl),fun q hq=>(p3.aY q hq).trans (by rw[qE];rfl),fun q _=>by rw[p3.bA,qE];rfl,fun q _=>by rw[p3.bF,qE];rfl⟩ (fun q hq=>?_) (fun c' hcc=>?_) (fun _=>?_),gg,p3.H.trans (by rw[qE];rfl)⟩
 . rw[zg.out.1];exact hcl q
 . rw[zg.out.1,hcl s,hcn] at hcc;cases hcc
 . rw[p3.bF,qE];exact hL.idle s hs hcn
theorem Ga (hL:Live A D w) (s:Nat) (hs:s<8) (az:Nat) (hl1:1<=az) (hl2:az<=3) (hn:D.aj.getD s none=none) (hcn:D.calls.getD s none=none) (hmd:D.aB<2000) (hx:D.word 0<18446744073709551616) (qb:ai (D.word 0)<281474976710000) (hlim:ai (D.word 0)<D.limit) (hlo:0<aZ (D.word 0)∧aZ (D.word 0)<=2000) (aL:D.count<3000000000000000000) (htl:D.aT.length<1000000):
 zk 9 #[R A.H 0,I s,I az] w (Lx A w (((((({(D.tick.dx (D.word 0)) with aB:=D.aB+1}:St).cB 0 (D.word 0) (aW (ai (D.word 0)+1) 0)).put (D.place (D.aB+1)) (pack 1 0)).put (1+s) (ai (D.word 0)+1)).bK s (fU (D.aB+1) az (ai (D.word 0)+1))).event {kind:=1,t:=D.aB+1,n:=ai (D.word 0)+1,op:=⟨0,0,0,az⟩}) (D.aB+1)):=by
 have hR:=hL.rep;generalize F8:({(D.tick.dx (D.word 0)) with aB:=D.aB+1}:St).cB 0 (D.word 0) (aW (ai (D.word 0)+1) 0)=dU;have zg:Hid (({(D.tick.dx (D.word 0)) with aB:=D.aB+1}:St).cB 0 (D.word 0) (aW (ai (D.word 0)+1) 0)=dU∧dU.place (D.aB+1)=D.place (D.aB+1)∧dU.aj=D.aj∧dU.calls=D.calls∧dU.aT=D.aT∧dU.count<3000000000000000010):=by
  refine⟨F8,?_,?_,?_,?_,?_⟩<;>rw[<-F8]
  . rw[zZ];exact FZ D.tick (D.word 0) (D.aB+1)
  . rw[DN];exact uJ D.tick (D.word 0)
  . rw[Aa];exact FI D.tick (D.word 0)
  . rw[DR];exact Jv D.tick (D.word 0)
  . rw[zY];show (D.tick.dx (D.word 0)).count+1<_;rw[xB];show D.count+1+1+1<_;omega
 clear F8;have b1:(s:Int)<8:=by omega
 have b0:(0:Int)<=(s:Int):=by omega
 have gH:=zH (fI s hs);have xC:=zH (wI az hl1 hl2);have e2:=hR.z2;have v5:=hR.df (5+s) (dI A D hs);rw[show A.tp D s=.pointer none by unfold au.tp;rw[hn]] at v5;have v21:w.cell? (J A.H 21)=zt (D.aB:Int):=hR.df 21 rfl;have d1:decide ((2000:Int)<=(D.aB:Int))=false:=by simp;omega
 have d2:((2000:Int)<=(D.aB:Int))=False:=by simp;omega
 have d3:(2000<=D.aB)=False:=by simp;omega
 have l1:decide ((D.limit:Int)<=(ai (D.word 0):Int))=false:=by simp;omega
 have l2:((D.limit:Int)<=(ai (D.word 0):Int))=False:=by simp;omega
 have l3:(D.limit<=ai (D.word 0))=False:=by simp;omega
 have k1:decide ((0:Int)<(aZ (D.word 0):Int))=true:=by simp;omega
 have k2:((0:Int)<(aZ (D.word 0):Int))=True:=by simp;omega
 have k3:(0<aZ (D.word 0))=True:=by simp;omega
 have n1:IntKind.i64.wrap ((D.aB:Int)+1)=(D.aB:Int)+1:=by rw[jG];omega
 have n2:IntKind.u64.wrap ((ai (D.word 0):Int)+1)=(ai (D.word 0):Int)+1:=by rw[IntKind.wrap_u64];omega
 have n3:IntKind.i64.wrap (1+(s:Int))=1+(s:Int):=by rw[jG];omega
 have Us:=zH (iK hR 0 0 rfl (by rw[hR.nw];omega) (by omega));have Ut:=zH (fun E=>kg (D.word 0) hx E);have H1:Hid (∀ Y,aC A D.tick Y->Grow A.L w A.L Y->zV Y A.H 1 (D.limit:Int)∧zT Y A.H 21 (D.aB:Int)∧Y.frozen? (J A.H 21)=false∧zk 44 #[R A.H 0,zu (D.word 0:Int)] Y (vC A Y (D.tick.dx (D.word 0)) (.tuple #[]))):=
  fun Y r g=>⟨r.df 1 rfl,r.df 21 rfl,r.iC 21,wR r (D.word 0) hx hlo.2 (by show D.count+1<_;omega)⟩
 have H2 : Hid (∀ Y w2, aC A (D.tick.dx (D.word 0)) w2 -> Grow A.L Y A.L w2 -> zT w2 A.H 21 (D.aB : Int) ∧ w2.frozen? (J A.H 21) = false) := fun Y w2 r g => ⟨by
     have h:=r.df 21 (v:=I ((D.tick.dx (D.word 0)).aB:Int)) rfl
     rw[show (D.tick.dx (D.word 0)).aB=D.aB by unfold St.dx St.cB;split<;>rfl] at h
     exact h,r.iC 21⟩
 have hmm:∀ w,(Instr.makeMap 116 none).run Tryz.prog w=.ok (.map (some w.heap.size)) (w.alloc (.map #[] 0)):=fun w=>rfl
 have uC:=zH (zA hL (zA hs (zA hn (zA hcn (zA hmd (zA qb (zA aL (zA htl hx))))))));clear hL hs hl1 hl2 hn hcn hmd hx qb hlim hlo aL htl;clear hR;go_enter Tryz.func9,Tryz.ntmps9;go_wp2_with (first|(go_at_call 40;refine (gH.out _).mono ?_;rintro e E ⟨rfl,rfl⟩)|(go_at_call 41;refine (xC.out _).mono ?_;rintro e E ⟨rfl,rfl⟩)|(go_at_call 42;refine Us.out.mono ?_;rintro e Y ⟨rfl,q1,q2⟩;obtain⟨y1,y2,y3,Qi⟩:=H1.out Y q1 q2;have HH:=zH Qi;clear Qi;have uK:=zH (zA q1 q2);clear q1 q2)|(go_at_call 43;refine (Ut.out _).mono ?_;rintro e E ⟨rfl,rfl⟩)|(go_at_call 44;refine HH.out.mono ?_;rintro e w2 ⟨rfl,q1,q2⟩;obtain⟨y4,y5⟩:=H2.out Y w2 q1 q2;have FD:=zH (zA q1 q2);clear q1 q2));obtain⟨hL,hs,hn,hcn,hmd,qb,aL,htl,hx⟩:=uC.out;obtain⟨r1,g12⟩:=FD.out;have g1:=uK.out.2.trans g12;clear g12;obtain⟨rm,gm⟩:=r1.Hq (D.aB+1);rw[show ((D.aB+1:Nat):Int)=(D.aB:Int)+1 from rfl] at rm gm;have hz3:(w2.setCell (J A.H 21) (I ((D.aB:Int)+1))).heap.size=w2.heap.size:=by simp[World.setCell]
 generalize hw3:w2.setCell (J A.H 21) (I ((D.aB:Int)+1))=w3 at*;generalize hw4:(w3.alloc (.map #[] 0)).alloc _=w4;have r4:aC A ({(D.tick.dx (D.word 0)) with aB:=D.aB+1}:St) w4:=by rw[<-hw4];exact (rm.alloc _).alloc _
 have Uu:Grow A.L w3 A.L w4:=by rw[<-hw4];exact (Grow.alloc _ _ _).trans (Grow.alloc _ _ _)
 have g4:Grow A.L w A.L w4:=(g1.trans gm).trans Uu;have Uv:w4.heap[w2.heap.size]? =some (.map #[] 0):=by rw[<-hw4,<-hz3];exact (Below.heap_alloc _ _ _ (by simp)).trans (heap_alloc_new w3 _)
 have hb4:w4.heap[w2.heap.size+1]? =some (.cells #[I ((D.aB:Int)+1),I az,I s,zu ((ai (D.word 0):Int)+1),zu 0,I 0,.slice none 0 0,.map (some w2.heap.size),.slice none 0 0,.slice none 0 0,.int .u32 0,.int .i32 0,.int .u32 0,.bool false] 131):=by rw[<-hw4,<-hz3];exact heap_alloc2_new w3 _ _
 have F9:A.L w2.heap.size=none:=by rw[<-hz3];exact rm.mem.fresh _ (zr _)
 have hbL:A.L (w2.heap.size+1)=none:=by rw[<-hz3];exact rm.mem.fresh _ (by omega)
 have hle:w.heap.size<=w2.heap.size:=g1.size;have F4:Fix A.L w4 (w2.heap.size+1) (.cells #[I ((D.aB:Int)+1),I az,I s,zu ((ai (D.word 0):Int)+1),zu 0,I 0,.slice none 0 0,.map (some w2.heap.size),.slice none 0 0,.slice none 0 0,.int .u32 0,.int .i32 0,.int .u32 0,.bool false] 131):=⟨hbL,hb4⟩
 have M4:Fix A.L w4 w2.heap.size (.map #[] 0):=⟨F9,Uv⟩
 have a2:=r4.df 2 (v:=R A.ba 0) rfl;have a3:=F4.cell 3 (v:=zu ((ai (D.word 0):Int)+1)) rfl;have Z:zk 46 #[zu ((ai (D.word 0):Int)+1),I 0] w4.drew fun e E=>e=.returned (zu ((aW (ai (D.word 0)+1) 0:Nat):Int))∧E=w4.drew:=flip (oI (ai (D.word 0)+1) 0 (by omega) (by omega) w4.drew)
 have HC:=zH Z;have LA:=zH (vE r4.drew 0 (D.word 0) (aW (ai (D.word 0)+1) 0) 0 rfl (by rw[r4.nw];omega) (by show (D.tick.dx (D.word 0)).count<_;have:=xB D.tick (D.word 0);have e:D.tick.count=D.count+1:=rfl;omega));have H4:=zH (zA g4 (zA F4 (zA M4 (zA F9 (zA hbL hle)))));clear hL hs hn hcn hmd qb aL htl hx r1 g1 rm gm hz3 hw3 hw4 r4 Uu g4 Uv hb4 F9 hbL hle F4 M4 Z;refine wp_region_still_tail 10 (by kernel_rfl) (by kernel_rfl) ?_;simp only[jS,jT,jU,jV]
 repeat still_step
 still_call HC.out
 refine wpStill_nil ?_;change wpList _ _ _ _ _ w4.drew;have Wv:Hid (Grow A.L w4 A.L w4.drew):=Grow.drew _ _;generalize w4.drew=wd4 at*;go_wp2_with (go_at_call 45;refine LA.out.mono ?_;rintro e w5 ⟨rfl,q1,q2⟩);obtain⟨g4,F4,M4,F9,hbL,hle⟩:=H4.out;obtain⟨hL,hs,hn,hcn,hmd,qb,aL,htl,hx⟩:=uC.out;rw[zg.out.1] at q1;obtain⟨-,p4,LB,Jy,O0,LC⟩:=zg.out;have O1:=Wv.out.trans q2;have F5:=F4.grow O1;have M5:=M4.grow O1;have g5:=g4.trans O1;have a2:=q1.df 2 (v:=R A.ba 0) rfl;have a0:=F5.cell 0 (v:=I ((D.aB:Int)+1)) rfl;have hpl:zk 48 #[R A.H 0,I ((D.aB:Int)+1)] w5.drew fun e E=>e=.returned (I ((D.place (D.aB+1):Nat):Int))∧E=w5.drew:=by
  have h:=fu q1.drew (D.aB+1) (by omega);rw[p4] at h;exact h
 have Rn:=zH hpl;have SV:=zH (kX 1 0 1 0 rfl rfl (by omega) (by omega) w5.drew);have HST:=zH (fT q1.drew (D.place (D.aB+1)) (pack 1 0) (by rw[q1.nw];have:=q1.sl;have:=congrArg (fun x=>x) p4;unfold St.place at p4 ⊢;omega) (by omega));have H5:=zH (zA g5 (zA F5 (zA M5 q1)));clear hL hs hn hcn hmd qb aL htl hx g4 F4 M4 F9 hbL hle O1 F5 M5 g5 q1 q2 hpl p4 LB Jy O0 LC;refine wp_region_still_tail 11 (by kernel_rfl) (by kernel_rfl) ?_;simp only[jS,jT,jU,jV]
 repeat still_step
 still_call Rn.out
 still_call SV.out
 refine wpStill_nil ?_;change wpList _ _ _ _ _ w5.drew;have Ww:Hid (Grow A.L w5 A.L w5.drew):=Grow.drew _ _;generalize w5.drew=Zb at*;go_wp2_with (go_at_call 47;refine HST.out.mono ?_;rintro e w6 ⟨rfl,q1,q2⟩);obtain⟨g5,F5,M5,_⟩:=H5.out;obtain⟨hL,hs,hn,hcn,hmd,qb,aL,htl,hx⟩:=uC.out;have LC:=zg.out.2.2.2.2.2;have yR:=Ww.out.trans q2;have F6:=F5.grow yR;have M6:=M5.grow yR;have g6:=g5.trans yR;have a2:=q1.df 2 (v:=R A.ba 0) rfl;have a3:=F6.cell 3 (v:=zu ((ai (D.word 0):Int)+1)) rfl;have Wx:=zH (Bo q1.drew (1+s) (ai (D.word 0)+1) (1+(s:Int)) ((ai (D.word 0):Int)+1) (by omega) (by omega) (by rw[q1.nw];omega) (by show dU.count+1<_;omega));have H6:=zH (zA g6 (zA F6 M6));have HV5:Hid (∀ w7,aC A ((dU.put (D.place (D.aB+1)) (pack 1 0)).put (1+s) (ai (D.word 0)+1)) w7->w7.cell? (J A.H (5+s))=some (.pointer none)∧w7.frozen? (J A.H (5+s))=false):=by
  intro w7 r;have h:=r.df (5+s) (dI A _ hs);rw[show A.tp ((dU.put (D.place (D.aB+1)) (pack 1 0)).put (1+s) (ai (D.word 0)+1)) s=.pointer none by unfold au.tp;rw[show ((dU.put (D.place (D.aB+1)) (pack 1 0)).put (1+s) (ai (D.word 0)+1)).aj.getD s none=none by show dU.aj.getD s none=none;rw[zg.out.2.2.1];exact hn]] at h;exact⟨h,r.iC _⟩
 clear hL hs hn hcn hmd qb aL htl hx g5 F5 M5 yR F6 M6 g6 q1 q2 LC;refine wp_region_still_tail 10 (by kernel_rfl) (by kernel_rfl) ?_;simp only[jS,jT,jU,jV]
 repeat still_step
 refine wpStill_nil ?_;change wpList _ _ _ _ _ w6.drew;have Wy:Hid (Grow A.L w6 A.L w6.drew):=Grow.drew _ _;generalize w6.drew=Zc at*;go_wp2_with (go_at_call 47;refine Wx.out.mono ?_;rintro e w7 ⟨rfl,q1,q2⟩;obtain⟨m5,z5⟩:=HV5.out w7 q1;have H7:=zH (zA q1 q2);clear q1 q2);obtain⟨g6,F6,M6⟩:=H6.out;obtain⟨q1,q2⟩:=H7.out;obtain⟨_,_,_,F9,hbL,hle⟩:=H4.out;obtain⟨hL,hs,hn,hcn,hmd,qb,aL,htl,hx⟩:=uC.out;obtain⟨-,p4,LB,Jy,O0,LC⟩:=zg.out;have O3:=Wy.out.trans q2;have F7:=F6.grow O3;have M7:=M6.grow O3;have g7:=g6.trans O3;have Uw:((dU.put (D.place (D.aB+1)) (pack 1 0)).put (1+s) (ai (D.word 0)+1)).aj.getD s none=none:=by show dU.aj.getD s none=none;rw[LB];exact hn
 have hblk:w7.heap[w2.heap.size+1]? =some (.cells (eO (A.gB s (w2.heap.size+1) w2.heap.size) s (fU (D.aB+1) az (ai (D.word 0)+1))).toArray 131):=by
  rw[show (eO (A.gB s (w2.heap.size+1) w2.heap.size) s (fU (D.aB+1) az (ai (D.word 0)+1))).toArray=#[I ((D.aB:Int)+1),I az,I s,zu ((ai (D.word 0):Int)+1),zu 0,I 0,.slice none 0 0,.map (some w2.heap.size),.slice none 0 0,.slice none 0 0,.int .u32 0,.int .i32 0,.int .u32 0,.bool false] by simp[eO,au.gB,kS,jb,fU]];exact F7.2
 obtain⟨rA,gA⟩:=q1.Dx g7 F7.1 M7.1 hs (by omega) hle (by omega) (fU (D.aB+1) az (ai (D.word 0)+1)) rfl rfl rfl rfl hblk M7.2 Uw;obtain⟨A8,qE⟩:∃ A8:au,A8=A.gB s (w2.heap.size+1) w2.heap.size:=⟨_,rfl⟩
 rw[<-qE] at rA gA;have e8:A8.H=A.H:=by rw[qE];rfl
 have Ro:A8.bt s=w2.heap.size+1:=by rw[qE];exact aV rfl
 have wu:(((dU.put (D.place (D.aB+1)) (pack 1 0)).put (1+s) (ai (D.word 0)+1)).bK s (fU (D.aB+1) az (ai (D.word 0)+1))).aj.getD s none=some (fU (D.aB+1) az (ai (D.word 0)+1)):=by rw[dC (by show s<dU.aj.length;rw[LB,hL.rep.n8];exact hs),aV rfl]
 generalize hw8:World.setCell w7 _ _=w8 at*;have c0:=rA.fw wu 0 (v:=I ((D.aB:Int)+1)) rfl;have c3:=rA.fw wu 3 (v:=zu ((ai (D.word 0):Int)+1)) rfl;rw[Ro] at c0 c3;have hev:=mY rA.drew s {kind:=1,t:=D.aB+1,n:=ai (D.word 0)+1,op:=⟨0,0,0,az⟩} 1 ((D.aB:Int)+1) ((ai (D.word 0):Int)+1) 0 0 0 az 0 0 0 0 none 0 0 rfl (kW.nil _ _) (by show dU.aT.length<_;rw[O0];exact htl);rw[e8] at hev;have HE:=zH hev;have H8:Hid (∀ A9 w9,aC A9 ((((dU.put (D.place (D.aB+1)) (pack 1 0)).put (1+s) (ai (D.word 0)+1)).bK s (fU (D.aB+1) az (ai (D.word 0)+1))).event {kind:=1,t:=D.aB+1,n:=ai (D.word 0)+1,op:=⟨0,0,0,az⟩}) w9->bT A8 A9 s->w9.cell? ⟨w2.heap.size+1,0,none⟩=zt ((D.aB:Int)+1)):=by
  intro A9 w9 r st;have h:=r.fw (show ((((dU.put (D.place (D.aB+1)) (pack 1 0)).put (1+s) (ai (D.word 0)+1)).bK s (fU (D.aB+1) az (ai (D.word 0)+1))).event {kind:=1,t:=D.aB+1,n:=ai (D.word 0)+1,op:=⟨0,0,0,az⟩}).aj.getD s none=some (fU (D.aB+1) az (ai (D.word 0)+1)) from wu) 0 (v:=I ((D.aB:Int)+1)) rfl;rw[st.bt,Ro] at h;exact h
 have Wz:=zH (zA qE (zA gA (zA Jy wu)));clear hL hs hn hcn hmd qb aL htl hx g6 F6 M6 O3 F7 M7 g7 q1 q2 F9 hbL hle p4 LB Jy O0 LC Uw hblk rA gA qE e8 Ro wu hw8 hev m5 z5;refine wp_region_still_tail 12 (by kernel_rfl) (by kernel_rfl) ?_;simp only[jS,jT,jU,jV]
 repeat still_step
 refine wpStill_nil ?_;change wpList _ _ _ _ _ w8.drew;have WA:Hid (∀ L,Grow L w8 L w8.drew):=fun L=>Grow.drew _ _
 generalize w8.drew=Zd at*;go_wp2_with (go_at_call 50;refine HE.out.mono ?_;rintro e w9 ⟨rfl,A9,p1,p2,p3,p4,p5⟩;have t0:=H8.out A9 w9 p1 p3;have HP:=zH (zA p1 (zA p2 p3));clear p1 p2 p3 p4 p5)
 go_ret2
 obtain⟨p1,p2,p3⟩:=HP.out;obtain⟨qE,gA,Jy,wu⟩:=Wz.out;obtain⟨hL,hs,hn,hcn,_⟩:=uC.out;have gg:=(gA.trans (WA.out _)).trans p2;have hcl:∀ q,((((dU.put (D.place (D.aB+1)) (pack 1 0)).put (1+s) (ai (D.word 0)+1)).bK s (fU (D.aB+1) az (ai (D.word 0)+1))).event {kind:=1,t:=D.aB+1,n:=ai (D.word 0)+1,op:=⟨0,0,0,az⟩}).calls.getD q none=D.calls.getD q none:=fun q=>by show dU.calls.getD q none=_;rw[Jy]
 rw[zg.out.1.symm] at p1 ⊢;refine⟨A9,rfl,Live.of (s:=s) hL ⟨(kL ({D.tick.dx (D.word 0) with aB:=D.aB+1}:St) 0 (D.word 0) (aW (ai (D.word 0)+1) 0)).1.trans (wH D.tick (D.word 0)).1,(kL ({D.tick.dx (D.word 0) with aB:=D.aB+1}:St) 0 (D.word 0) (aW (ai (D.word 0)+1) 0)).2.trans (wH D.tick (D.word 0)).2⟩ p1 gg ⟨p3.bf.trans (by rw[qE];rfl),p3.mp.trans (by rw[qE];rfl),p3.mt.trans (by rw[qE];funext k;show (if k=s then 0 else A.mt k)=A.mt k;by_cases Z:k=s;rw[aV Z,hL.mt k];rw[aR Z]),fun q hq=>by rw[p3.bt,qE];exact aR hq,fun q _=>by rw[p3.bc,qE];rfl,fun q hq=>(p3.bx q hq).trans (by rw[qE];rfl),fun q hq=>(p3.aY q hq).trans (by rw[qE];rfl),fun q _=>by rw[p3.bA,qE];rfl,fun q _=>by rw[p3.bF,qE];rfl⟩ (fun q hq=>?_) (fun c' hcc=>?_) (fun _=>?_),gg,p3.H.trans (by rw[qE];rfl)⟩
 . rw[zg.out.1];exact hcl q
 . rw[zg.out.1,hcl s,hcn] at hcc;cases hcc
 . rw[p3.bF,qE];exact hL.idle s hs hcn
end Go.Proofs.YthicolbbmjfkfaaGreat.Em
