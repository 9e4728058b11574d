import Derived.Test.YtpkenfnmkpmapaaGreatQh11
import Derived.Laws.MakeOwn
namespace Go.Proofs.YtpkenfnmkpmapaaGreat.Em
open Go.ChangeShapes Go.WideShapes Go.ChangeAt Go.RowKit En
set_option linter.unusedVariables false
set_option linter.unusedSimpArgs false
set_option maxRecDepth 100000
set_option maxHeartbeats 1600000
theorem opOk_true (o:En.Op) (h:opOk o=true) (w:World):Calls Tryz.prog 66 #[.agg #[zi (o.kind:Int),zi (o.key:Int),zi (o.hi:Int),zi (o.value:Int)]] w fun e w'=>e=.returned (.bool true)∧Below w.heap.size w w':=by
 have hb:Below w.heap.size w (w.alloc (.cells #[zi (o.kind:Int),zi (o.key:Int),zi (o.hi:Int),zi (o.value:Int)] 29)):=(Below.refl _ _).alloc (Nat.le_refl _) _;have HB:=zH hb;clear hb;obtain⟨kind,key,hi,value⟩:=o;unfold opOk at h;simp only at h HB ⊢;have hk:kind=1∨kind=2∨kind=3∨kind=4∨kind=5∨kind=6∨kind=7:=by
  by_cases h1:kind=1;exact .inl h1
  by_cases h2:kind=2;exact .inr (.inl h2)
  by_cases h3:kind=3;exact .inr (.inr (.inl h3))
  by_cases h4:kind=4;exact .inr (.inr (.inr (.inl h4)))
  by_cases h5:kind=5;exact .inr (.inr (.inr (.inr (.inl h5))))
  by_cases h6:kind=6;exact .inr (.inr (.inr (.inr (.inr (.inl h6)))))
  by_cases h7:kind=7;exact .inr (.inr (.inr (.inr (.inr (.inr h7)))))
  simp[h1,h2,h3,h4,h5,h6,h7] at h
 rcases hk with rfl|rfl|rfl|rfl|rfl|rfl|rfl
 · simp only[Bool.and_eq_true,decide_eq_true_eq,beq_iff_eq] at h
   have hx:=h;have a1:decide ((key:Int)≤(63:Int))=true:=by simp;omega
   have a2:((key:Int)≤(63:Int))=True:=by simp;omega
   have b1:((hi:Int)==0)=true:=by simp;omega
   have b2:((hi:Int)=0)=True:=by simp;omega
   have c1:((value:Int)==0)=true:=by simp;omega
   have c2:((value:Int)=0)=True:=by simp;omega
   clear h hx;go_enter Tryz.func66,Tryz.ntmps66;go_wp2;go_ret;exact⟨rfl,HB.out⟩
 · simp only[Bool.and_eq_true,decide_eq_true_eq,beq_iff_eq] at h
   have hx:=h;have a1:decide ((key:Int)≤(63:Int))=true:=by simp;omega
   have a2:((key:Int)≤(63:Int))=True:=by simp;omega
   have b1:((hi:Int)==0)=true:=by simp;omega
   have b2:((hi:Int)=0)=True:=by simp;omega
   have c1:decide ((value:Int)≤(65535:Int))=true:=by simp;omega
   have c2:((value:Int)≤(65535:Int))=True:=by simp;omega
   clear h hx;go_enter Tryz.func66,Tryz.ntmps66;go_wp2;go_ret;exact⟨rfl,HB.out⟩
 · simp only[Bool.and_eq_true,decide_eq_true_eq,beq_iff_eq] at h
   have hx:=h;have a1:decide ((key:Int)≤(63:Int))=true:=by simp;omega
   have a2:((key:Int)≤(63:Int))=True:=by simp;omega
   have b1:((hi:Int)==0)=true:=by simp;omega
   have b2:((hi:Int)=0)=True:=by simp;omega
   have c1:decide ((value:Int)≤(65535:Int))=true:=by simp;omega
   have c2:((value:Int)≤(65535:Int))=True:=by simp;omega
   clear h hx;go_enter Tryz.func66,Tryz.ntmps66;go_wp2;go_ret;exact⟨rfl,HB.out⟩
 · simp only[Bool.and_eq_true,decide_eq_true_eq,beq_iff_eq] at h
   have hx:=h;have a1:decide ((key:Int)≤(63:Int))=true:=by simp;omega
   have a2:((key:Int)≤(63:Int))=True:=by simp;omega
   have b1:((hi:Int)==0)=true:=by simp;omega
   have b2:((hi:Int)=0)=True:=by simp;omega
   have c1:((value:Int)==0)=true:=by simp;omega
   have c2:((value:Int)=0)=True:=by simp;omega
   clear h hx;go_enter Tryz.func66,Tryz.ntmps66;go_wp2;go_ret;exact⟨rfl,HB.out⟩
 · simp only[Bool.and_eq_true,decide_eq_true_eq,beq_iff_eq] at h
   have hx:=h;have a1:decide ((key:Int)≤(63:Int))=true:=by simp;omega
   have a2:((key:Int)≤(63:Int))=True:=by simp;omega
   have b1:decide ((key:Int)≤(hi:Int))=true:=by simp;omega
   have b2:((key:Int)≤(hi:Int))=True:=by simp;omega
   have e1:decide ((hi:Int)≤(63:Int))=true:=by simp;omega
   have e2:((hi:Int)≤(63:Int))=True:=by simp;omega
   have c1:((value:Int)==0)=true:=by simp;omega
   have c2:((value:Int)=0)=True:=by simp;omega
   clear h hx;go_enter Tryz.func66,Tryz.ntmps66;go_wp2;go_ret;exact⟨rfl,HB.out⟩
 · simp only[Bool.and_eq_true,decide_eq_true_eq,beq_iff_eq] at h
   have hx:=h;have a1:((key:Int)==0)=true:=by simp;omega
   have a2:((key:Int)=0)=True:=by simp;omega
   have b1:((hi:Int)==0)=true:=by simp;omega
   have b2:((hi:Int)=0)=True:=by simp;omega
   have c1:((value:Int)==0)=true:=by simp;omega
   have c2:((value:Int)=0)=True:=by simp;omega
   clear h hx;go_enter Tryz.func66,Tryz.ntmps66;go_wp2;go_ret;exact⟨rfl,HB.out⟩
 · simp only[Bool.and_eq_true,decide_eq_true_eq,beq_iff_eq] at h
   have hx:=h;have a1:((key:Int)==0)=true:=by simp;omega
   have a2:((key:Int)=0)=True:=by simp;omega
   have b1:((hi:Int)==0)=true:=by simp;omega
   have b2:((hi:Int)=0)=True:=by simp;omega
   have c1:((value:Int)==0)=true:=by simp;omega
   have c2:((value:Int)=0)=True:=by simp;omega
   clear h hx;go_enter Tryz.func66,Tryz.ntmps66;go_wp2;go_ret;exact⟨rfl,HB.out⟩
theorem ends_op (o:En.Op) (w:World):Calls Tryz.prog 67 #[.agg #[zi (o.kind:Int),zi (o.key:Int),zi (o.hi:Int),zi (o.value:Int)]] w fun e w'=>e=.returned (.bool (opEnds o))∧Below w.heap.size w w':=by
 have hb:Below w.heap.size w (w.alloc (.cells #[zi (o.kind:Int),zi (o.key:Int),zi (o.hi:Int),zi (o.value:Int)] 29)):=(Below.refl _ _).alloc (Nat.le_refl _) _;have HB:=zH hb;clear hb;have he:opEnds o=(decide (o.kind=6)||decide (o.kind=7)):=by unfold opEnds;by_cases h1:o.kind=6<;>by_cases h2:o.kind=7<;>simp[h1,h2]
 rw[he];clear he;generalize o.kind=kd at*
 by_cases h6:kd=6
 · subst h6
   go_enter Tryz.func67,Tryz.ntmps67;go_wp2;go_ret;exact⟨rfl,HB.out⟩
 · have a1:((kd:Int)==6)=false:=by simp;omega
   have a2:((kd:Int)=6)=False:=by simp;omega
   by_cases h7:kd=7
   · have b1:((kd:Int)==7)=true:=by simp;omega
     have b2:((kd:Int)=7)=True:=by simp;omega
     have HX:=zH (zA h6 h7);clear h6 h7;go_enter Tryz.func67,Tryz.ntmps67;go_wp2;go_ret;exact⟨by simp[HX.out.1,HX.out.2],HB.out⟩
   · have b1:((kd:Int)==7)=false:=by simp;omega
     have b2:((kd:Int)=7)=False:=by simp;omega
     have HX:=zH (zA h6 h7);clear h6 h7;go_enter Tryz.func67,Tryz.ntmps67;go_wp2;go_ret;exact⟨by simp[HX.out.1,HX.out.2],HB.out⟩
theorem levelOk (l:Nat) (h1:1≤l) (h2:l≤3) (w:World):Calls Tryz.prog 57 #[zi (l:Int)] w fun e w'=>e=.returned (.bool true)∧w=w':=by
 have d1:decide ((1:Int)≤(l:Int))=true:=by simp;omega
 have d2:decide ((l:Int)≤3)=true:=by simp;omega
 have e1:((1:Int)≤(l:Int))=True:=by simp;omega
 have e2:((l:Int)≤3)=True:=by simp;omega
 have g1:(1≤l)=True:=by simp;omega
 have g2:(l≤3)=True:=by simp;omega
 have g3:(0<l)=True:=by simp;omega
 clear h1 h2;go_enter Tryz.func57,Tryz.ntmps57;go_wp2;go_ret;exact⟨rfl,rfl⟩
variable {A:Book} {σ:St} {w:World}
def FirstTo (σ3:St) (s:Nat):Prop:=∀ A w,Rep A σ3 w→A.mp=0→Calls Tryz.prog 68 #[.pointer (some ⟨A.be,0,none⟩),.pointer (some ⟨A.bt s,0,none⟩),.pointer (some ⟨A.bc s,0,none⟩)] w (Tells A w s (σ3.first s))
def Issued (A:Book) (w:World) (σ':St) (err:Int):Ending→World→Prop:=fun e w'=>∃ A',e=.returned (zi err)∧Live A' σ' w'∧Grow A.L w A'.L w'∧A'.be=A.be
def callOf (o:En.Op) (q:Nat):Cal:={op:=o,k:=none,r:={},waits:=false,over:=false,seq:=q}
theorem setC_getQ {σ:St} {s q:Nat} (c:Cal) (h:q≠s):(σ.setC s c).calls.getD q none=σ.calls.getD q none:=by
 unfold St.setC;simp only[List.getD_eq_getElem?_getD,List.getElem?_set];rw[if_neg (Ne.symm h)]
theorem issue_ends (hL:Live A σ w) (s:Nat) (hs:s<8) (t:Txn) (ht:σ.txns.getD s none=some t) (o:En.Op) (ho:opOk o=true) (he:opEnds o=true) (hn:σ.calls.getD s none=none) (hop:t.ops<1000000) (hsq:σ.seq<4000000000000000000)
 (HF:FirstTo (({σ with seq:=σ.seq+1}:St).setC s (callOf o (σ.seq+1))) s) (σ4:St) (k:K) (hf:(({σ with seq:=σ.seq+1}:St).setC s (callOf o (σ.seq+1))).first s=(σ4,k)) (c4:Cal) (hc4:σ4.calls.getD s none=some c4) (hcq:∀ q,q≠s→σ4.calls.getD q none=σ.calls.getD q none):
 Calls Tryz.prog 35 #[.pointer (some ⟨A.be,0,none⟩),zi (s:Int),.agg #[zi (o.kind:Int),zi (o.key:Int),zi (o.hi:Int),zi (o.value:Int)]] w (Issued A w (σ4.setC s {c4 with k:=some k}) 0):=by
 have HSW:Hid (σ4.sw=σ.sw∧σ4.cut=σ.cut):=zH (by have h:=first_sw (({σ with seq:=σ.seq+1}:St).setC s (callOf o (σ.seq+1))) s;rw[hf] at h;exact h);obtain⟨r0,g0,f0⟩:=allocs1 hL.rep #[zi (o.kind:Int),zi (o.key:Int),zi (o.hi:Int),zi (o.value:Int)] 29;have hsok:=zH (sessionOk s hs);have hok:=zH (opOk_true o ho);have hen:=zH (ends_op o);rw[he] at hen;have b1:(s:Int)<8:=by omega
 have b0:(0:Int)≤(s:Int):=by omega
 have hV:∀ (A':Book) (σ':St) w',Rep A' σ' w'→A'.be=A.be→A'.bt=A.bt→A'.vcall=A.vcall→(∃ t',σ'.txns.getD s none=some t')→w'.cell? ⟨A.be,5+s,none⟩=some (.pointer (some ⟨A.bt s,0,none⟩))∧w'.cell? ⟨A.be,13+s,none⟩=some (.pointer none):=by
  rintro A' σ' w' r e1 e2 e3 ⟨t',ht'⟩;have h:=r.eng (5+s) (engCs_txn A' σ' hs);have h2:=r.eng (13+s) (engCs_call A' σ' hs);have e:A'.tp σ' s=.pointer (some ⟨A.bt s,0,none⟩):=by unfold Book.tp;rw[ht',e2]
  rw[e,e1] at h;rw[e1,e3,hL.idle s hs hn] at h2;exact⟨h,h2⟩
 have HW:Hid (∀ w',Below (w.alloc (.cells #[zi (o.kind:Int),zi (o.key:Int),zi (o.hi:Int),zi (o.value:Int)] 29)).heap.size (w.alloc (.cells #[zi (o.kind:Int),zi (o.key:Int),zi (o.hi:Int),zi (o.value:Int)] 29)) w'→Rep A σ w'∧Grow A.L w A.L w'∧Fix A.L w' w.heap.size (.cells #[zi (o.kind:Int),zi (o.key:Int),zi (o.hi:Int),zi (o.value:Int)] 29)∧w'.cell? ⟨A.be,5+s,none⟩=some (.pointer (some ⟨A.bt s,0,none⟩))∧w'.cell? ⟨A.be,13+s,none⟩=some (.pointer none)∧w'.cell? ⟨A.bt s,5,none⟩=some (zi (t.ops:Int))∧w'.frozen? ⟨A.bt s,5,none⟩=false∧w'.cell? ⟨A.be,22,none⟩=some (zi (σ.seq:Int))∧w'.frozen? ⟨A.be,22,none⟩=false):=by
  intro w' hb;have r:=r0.below hb;have gb:=Grow.below (L:=A.L) hb;obtain⟨v1,v2⟩:=hV A σ w' r rfl rfl rfl ⟨t,ht⟩;exact⟨r,g0.trans gb,f0.grow gb,v1,v2,r.txn ht 5 rfl,r.txnF ht 5,r.eng 22 rfl,r.engF 22⟩
 obtain⟨_,_,_,v1,v2,v3,v4,v5,v6⟩:=HW.out _ (Below.refl _ _);have HL0:=zH (zA hL (zA ht (zA hn (zA hs (zA hc4 hcq)))));have HFF:=zH (zA HF hf);have hd:(decide ((12:Int)≤(t.ops:Int))=false∧((12:Int)≤(t.ops:Int))=False∧(12≤t.ops)=False)∨(decide ((12:Int)≤(t.ops:Int))=true∧((12:Int)≤(t.ops:Int))=True∧(12≤t.ops)=True∧Hid (0=0)):=by
  rcases Nat.lt_or_ge t.ops 12 with h|h
  · exact .inl ⟨by simp;omega,by simp;omega,by simp;omega⟩
  · exact .inr ⟨by simp;omega,by simp;omega,by simp;omega,zH rfl⟩
 have n1:IntKind.i64.wrap ((t.ops:Int)+1)=(t.ops:Int)+1:=by rw[IntKind.wrap_i64];omega
 have n2:IntKind.i64.wrap ((σ.seq:Int)+1)=(σ.seq:Int)+1:=by rw[IntKind.wrap_i64];omega
 clear hL r0 g0 f0 hs ho he hn hop hsq HF hf hc4 hcq hV ht
 rcases hd with ⟨d1,d2,d3⟩|⟨d1,d2,d3,TA⟩
 all_goals (
  go_enter Tryz.func35,Tryz.ntmps35
  go_wp2_with (first|(go_at_call 36;refine (hsok.out _).mono ?_;rintro e w' ⟨rfl,rfl⟩)|(go_at_call 66;refine (hok.out _).mono ?_;rintro e w1 ⟨rfl,hb⟩;obtain⟨r1,g1,f1,x1,x2,x3,x4,x5,x6⟩:=HW.out w1 hb;have y0:=f1.cell 0 (v:=zi (o.kind:Int)) rfl;have y1:=f1.cell 1 (v:=zi (o.key:Int)) rfl;have y2:=f1.cell 2 (v:=zi (o.hi:Int)) rfl;have y3:=f1.cell 3 (v:=zi (o.value:Int)) rfl;have H1:=zH hb;clear r1 g1 f1 hb)|(go_at_call 67;refine (hen.out _).mono ?_;rintro e w1 ⟨rfl,hb2⟩;clear TA;obtain⟨r1,g1,f1,x1,x2,x3,x4,x5,x6⟩:=HW.out w1 (H1.out.trans (hb2.mono H1.out.size));have y0:=f1.cell 0 (v:=zi (o.kind:Int)) rfl;have y1:=f1.cell 1 (v:=zi (o.key:Int)) rfl;have y2:=f1.cell 2 (v:=zi (o.hi:Int)) rfl;have y3:=f1.cell 3 (v:=zi (o.value:Int)) rfl;have H1':=zH (H1.out.trans (hb2.mono H1.out.size));clear r1 g1 f1 hb2 H1;have H1:=H1';clear H1')|(go_at_call 67;refine (hen.out _).mono ?_;rintro e w2 ⟨rfl,hb2⟩;obtain⟨r1,g1,f1,x1,x2,x3,x4,x5,x6⟩:=HW.out w2 (H1.out.trans (hb2.mono H1.out.size));have y0:=f1.cell 0 (v:=zi (o.kind:Int)) rfl;have y1:=f1.cell 1 (v:=zi (o.key:Int)) rfl;have y2:=f1.cell 2 (v:=zi (o.hi:Int)) rfl;have y3:=f1.cell 3 (v:=zi (o.value:Int)) rfl;have H2:=zH (zA r1 (zA g1 f1));clear r1 g1 f1 hb2))
  obtain⟨r1,g1,f1⟩:=H2.out
  obtain⟨hL,ht,hn,hs,hc4,hcq⟩:=HL0.out
  obtain⟨ra,ga1⟩:=r1.seqSet (σ.seq+1)
  rw[show ((σ.seq+1:Nat):Int)=(σ.seq:Int)+1 from rfl] at ra ga1
  have ga:=g1.trans ga1
  have fa:=f1.grow ga1
  clear ga1
  generalize w2.setCell ⟨A.be,22,none⟩ (zi ((σ.seq:Int)+1))=w3 at*
  have hseq:=ra.eng 22 (v:=zi ((σ.seq:Int)+1)) rfl
  have o0:=fa.cell 0 (v:=zi (o.kind:Int)) rfl
  have o1:=fa.cell 1 (v:=zi (o.key:Int)) rfl
  have o2:=fa.cell 2 (v:=zi (o.hi:Int)) rfl
  have o3:=fa.cell 3 (v:=zi (o.value:Int)) rfl
  have hB:Below w3.heap.size w3 (w3.alloc (.cells #[zi (o.kind:Int),zi (o.key:Int),zi (o.hi:Int),zi (o.value:Int),.nilFunc,zi 0,zi 0,.slice none 0 0,zi 0,zi 0,.bool false,.bool false,zi ((σ.seq:Int)+1)] 124)).drew:=((Below.refl _ _).alloc (Nat.le_refl _) _).drew
  have hblk:(w3.alloc (.cells #[zi (o.kind:Int),zi (o.key:Int),zi (o.hi:Int),zi (o.value:Int),.nilFunc,zi 0,zi 0,.slice none 0 0,zi 0,zi 0,.bool false,.bool false,zi ((σ.seq:Int)+1)] 124)).drew.heap[w3.heap.size]? =some (.cells (callCs (A.newCall s w3.heap.size .nilFunc) s (callOf o (σ.seq+1))).toArray 124):=by
   rw[show (callCs (A.newCall s w3.heap.size .nilFunc) s (callOf o (σ.seq+1))).toArray=#[zi (o.kind:Int),zi (o.key:Int),zi (o.hi:Int),zi (o.value:Int),.nilFunc,zi 0,zi 0,.slice none 0 0,zi 0,zi 0,.bool false,.bool false,zi ((σ.seq:Int)+1)] by simp[callCs,Book.newCall,upF,callOf]]
   exact heap_alloc_new w3 _
  have hn1:({σ with seq:=σ.seq+1}:St).calls.getD s none=none:=hn
  obtain⟨rb,gb⟩:=ra.newCall hB hs (Nat.le_refl _) .nilFunc (callOf o (σ.seq+1)) rfl hblk hn1
  obtain⟨A1,hA1⟩:∃ A1:Book,A1=A.newCall s w3.heap.size .nilFunc:=⟨_,rfl⟩
  rw[←hA1] at rb gb
  have e1:A1.be=A.be:=by rw[hA1];rfl
  have e2:A1.bt=A.bt:=by rw[hA1];rfl
  have e3:A1.bc s=w3.heap.size:=by rw[hA1];exact if_pos rfl
  have e4:A1.mp=A.mp:=by rw[hA1];rfl
  have hFF:=HFF.out.1 A1 _ rb (e4.trans hL.mp)
  rw[HFF.out.2,e1,e2,e3] at hFF
  have hst:∀ A5:Book,Stay A1 A5 s→StayQ A A5 s:=fun A5 st=>by
   refine⟨st.bf.trans (by rw[hA1];rfl),st.mp.trans e4,st.mt.trans (by rw[hA1];rfl),fun q _=>by rw[st.bt,e2],fun q hq=>by rw[st.bc,hA1];exact if_neg hq,fun q hq=>(st.bx q hq).trans (by rw[hA1];rfl),fun q hq=>(st.vpairs q hq).trans (by rw[hA1];exact upF_other _ _ hq),fun q hq=>by rw[st.vnext,hA1];exact upF_other _ _ hq,fun q hq=>by rw[st.vcall,hA1];rfl⟩
  have HN:Hid (∀ A5 w5 v A6,A6={A5 with vnext:=upF A5.vnext s v}→Rep A5 σ4 w5→Stay A1 A5 s→w5.cell? ⟨w3.heap.size,4,none⟩=some (A5.vnext s)∧w5.frozen? ⟨w3.heap.size,4,none⟩=false∧Rep A6 (σ4.setC s {c4 with k:=some k}) (w5.setCell ⟨w3.heap.size,4,none⟩ v)∧Grow A5.L w5 A5.L (w5.setCell ⟨w3.heap.size,4,none⟩ v)∧(w5.setCell ⟨w3.heap.size,4,none⟩ v).cell? ⟨A.be,13+s,none⟩=some (A5.vcall s)∧(w5.setCell ⟨w3.heap.size,4,none⟩ v).frozen? ⟨A.be,13+s,none⟩=false):=by
   intro A5 w5 v A6 hA6 q st
   have ebc:A5.bc s=w3.heap.size:=by rw[st.bc];exact e3
   have x4:=q.call hc4 4 (v:=A5.vnext s) rfl
   have z4:=q.callF hc4 4
   obtain⟨r6,g6⟩:=q.nextSet hc4 v (some k)
   rw[←hA6,ebc] at r6
   rw[ebc] at x4 z4 g6
   have e6:A6.be=A.be:=by rw[hA6];exact st.be.trans e1
   have m13:=r6.eng (13+s) (engCs_call A6 _ hs)
   have z13:=r6.engF (13+s)
   rw[e6] at m13 z13
   rw[show A6.vcall=A5.vcall by rw[hA6]] at m13
   exact⟨x4,z4,r6,g6,m13,z13⟩
  have HY:=zH (zA hFF (zA gb (zA ga (zA hst (zA e3 (zA e1 (zA hc4 (zA hcq hs))))))))
  clear hL ht hn hs hc4 hcq ra ga fa hB hblk hn1 rb gb hA1 e1 e2 e3 e4 hFF hst r1 g1 f1
  go_region
  generalize hw4:(w3.alloc _).drew=w4 at*
  clear hseq o0 o1 o2 o3 hw4
  go_wp2_with (go_at_call 68;refine HY.out.1.mono ?_;rintro e w5 ⟨A5,v,rfl,p1,p2,p3,p4⟩;obtain⟨f5,u5,u6,rfl,_⟩:=KRep.enter p4;obtain⟨x4,z4,r6,g6,m13,z13⟩:=HN.out A5 w5 (.func (.func f5) u5 u6) _ rfl p1 p3;have HP:=zH (zA p2 (zA p3 (zA p4 (zA r6 g6))));clear p1 p2 p3 p4 r6 g6)
  go_ret
  obtain⟨_,gb,ga,hst,e3,e1,hc4,hcq,hs⟩:=HY.out
  obtain⟨p2,p3,p4,r6,g6⟩:=HP.out
  obtain⟨r7,g7⟩:=r6.vcallSet hs (.pointer (some ⟨w3.heap.size,0,none⟩))
  obtain⟨A7,hA7⟩:∃ A7:Book,A7={A5 with vnext:=upF A5.vnext s (.func (.func f5) u5 u6),vcall:=upF A5.vcall s (.pointer (some ⟨w3.heap.size,0,none⟩))}:=⟨_,rfl⟩
  rw[show ({A5 with vnext:=upF A5.vnext s (.func (.func f5) u5 u6)}:Book).be=A.be from p3.be.trans e1] at g7
  have r8:Rep A7 (σ4.setC s {c4 with k:=some k}) ((w5.setCell ⟨w3.heap.size,4,none⟩ (.func (.func f5) u5 u6)).setCell ⟨A.be,13+s,none⟩ (.pointer (some ⟨w3.heap.size,0,none⟩))):=by
   rw[hA7,←show A5.be=A.be from p3.be.trans e1]
   exact r7
  have e7L:A7.L=A5.L:=by rw[hA7]
  have gg:Grow A.L w A7.L ((w5.setCell ⟨w3.heap.size,4,none⟩ (.func (.func f5) u5 u6)).setCell ⟨A.be,13+s,none⟩ (.pointer (some ⟨w3.heap.size,0,none⟩))):=by
   rw[e7L]
   exact (((ga.trans gb).trans p2).trans g6).trans g7
  have sq:=hst A5 p3
  have hc':(σ4.setC s {c4 with k:=some k}).calls.getD s none=some {c4 with k:=some k}:=by rw[getC_set (lt_of_call hc4),if_pos rfl]
  refine⟨A7,rfl,Live.of (s:=s) HL0.out.1 HSW.out r8 gg ⟨by rw[hA7];exact sq.bf,by rw[hA7];exact sq.mp,by rw[hA7];exact sq.mt,fun q hq=>by rw[hA7];exact sq.bt q hq,fun q hq=>by rw[hA7];exact sq.bc q hq,fun q hq=>by rw[hA7];exact sq.bx q hq,fun q hq=>by rw[hA7];exact sq.vpairs q hq,fun q hq=>by rw[hA7];exact (upF_other _ _ hq).trans (sq.vnext q hq),fun q hq=>by rw[hA7];exact (upF_other _ _ hq).trans (sq.vcall q hq)⟩ (fun q hq=>?_) (fun c' hcc=>?_) (fun hnn=>by have h0:=hc'.symm.trans hnn;cases h0),gg,by rw[hA7];exact sq.be⟩
  · rw[setC_getQ _ hq];exact hcq q hq
  · obtain rfl:{c4 with k:=some k}=c':=Option.some.inj (hc'.symm.trans hcc)
    refine⟨?_,k,rfl,?_⟩
    · rw[hA7]
      show upF A5.vcall s _ s=ptr (A5.bc s)
      rw[upF_same,p3.bc,e3]
    · have ek:kp A7 (σ4.setC s {c4 with k:=some k}) s=kp A5 σ4 s:=by unfold kp;rw[call_get hc',call_get hc4,hA7]
      have ev:A7.vnext s=.func (.func f5) u5 u6:=by rw[hA7];exact upF_same _ _ _
      rw[ek,ev,e7L]
      exact p4.grow (g6.trans g7)
 )
theorem issue_other (hL:Live A σ w) (s:Nat) (hs:s<8) (t:Txn) (ht:σ.txns.getD s none=some t) (o:En.Op) (ho:opOk o=true) (he:opEnds o=false) (hn:σ.calls.getD s none=none) (hop:t.ops<12) (hsq:σ.seq<4000000000000000000)
 (HF:FirstTo (({(σ.setT s {t with ops:=t.ops+1}) with seq:=σ.seq+1}:St).setC s (callOf o (σ.seq+1))) s) (σ4:St) (k:K) (hf:(({(σ.setT s {t with ops:=t.ops+1}) with seq:=σ.seq+1}:St).setC s (callOf o (σ.seq+1))).first s=(σ4,k)) (c4:Cal) (hc4:σ4.calls.getD s none=some c4) (hcq:∀ q,q≠s→σ4.calls.getD q none=σ.calls.getD q none):
 Calls Tryz.prog 35 #[.pointer (some ⟨A.be,0,none⟩),zi (s:Int),.agg #[zi (o.kind:Int),zi (o.key:Int),zi (o.hi:Int),zi (o.value:Int)]] w (Issued A w (σ4.setC s {c4 with k:=some k}) 0):=by
 have HSW:Hid (σ4.sw=σ.sw∧σ4.cut=σ.cut):=zH (by have h:=first_sw (({(σ.setT s {t with ops:=t.ops+1}) with seq:=σ.seq+1}:St).setC s (callOf o (σ.seq+1))) s;rw[hf] at h;exact h);obtain⟨r0,g0,f0⟩:=allocs1 hL.rep #[zi (o.kind:Int),zi (o.key:Int),zi (o.hi:Int),zi (o.value:Int)] 29;have hsok:=zH (sessionOk s hs);have hok:=zH (opOk_true o ho);have hen:=zH (ends_op o);rw[he] at hen;have b1:(s:Int)<8:=by omega
 have b0:(0:Int)≤(s:Int):=by omega
 have hV:∀ (A':Book) (σ':St) w',Rep A' σ' w'→A'.be=A.be→A'.bt=A.bt→A'.vcall=A.vcall→(∃ t',σ'.txns.getD s none=some t')→w'.cell? ⟨A.be,5+s,none⟩=some (.pointer (some ⟨A.bt s,0,none⟩))∧w'.cell? ⟨A.be,13+s,none⟩=some (.pointer none):=by
  rintro A' σ' w' r e1 e2 e3 ⟨t',ht'⟩;have h:=r.eng (5+s) (engCs_txn A' σ' hs);have h2:=r.eng (13+s) (engCs_call A' σ' hs);have e:A'.tp σ' s=.pointer (some ⟨A.bt s,0,none⟩):=by unfold Book.tp;rw[ht',e2]
  rw[e,e1] at h;rw[e1,e3,hL.idle s hs hn] at h2;exact⟨h,h2⟩
 have HW:Hid (∀ w',Below (w.alloc (.cells #[zi (o.kind:Int),zi (o.key:Int),zi (o.hi:Int),zi (o.value:Int)] 29)).heap.size (w.alloc (.cells #[zi (o.kind:Int),zi (o.key:Int),zi (o.hi:Int),zi (o.value:Int)] 29)) w'→Rep A σ w'∧Grow A.L w A.L w'∧Fix A.L w' w.heap.size (.cells #[zi (o.kind:Int),zi (o.key:Int),zi (o.hi:Int),zi (o.value:Int)] 29)∧w'.cell? ⟨A.be,5+s,none⟩=some (.pointer (some ⟨A.bt s,0,none⟩))∧w'.cell? ⟨A.be,13+s,none⟩=some (.pointer none)∧w'.cell? ⟨A.bt s,5,none⟩=some (zi (t.ops:Int))∧w'.frozen? ⟨A.bt s,5,none⟩=false∧w'.cell? ⟨A.be,22,none⟩=some (zi (σ.seq:Int))∧w'.frozen? ⟨A.be,22,none⟩=false):=by
  intro w' hb;have r:=r0.below hb;have gb:=Grow.below (L:=A.L) hb;obtain⟨v1,v2⟩:=hV A σ w' r rfl rfl rfl ⟨t,ht⟩;exact⟨r,g0.trans gb,f0.grow gb,v1,v2,r.txn ht 5 rfl,r.txnF ht 5,r.eng 22 rfl,r.engF 22⟩
 obtain⟨_,_,_,v1,v2,v3,v4,v5,v6⟩:=HW.out _ (Below.refl _ _);have HL0:=zH (zA hL (zA ht (zA hn (zA hs (zA hc4 hcq)))));have HFF:=zH (zA HF hf);have d1:decide ((12:Int)≤(t.ops:Int))=false:=by simp;omega
 have d2:((12:Int)≤(t.ops:Int))=False:=by simp;omega
 have d3:(12≤t.ops)=False:=by simp;omega
 have n1:IntKind.i64.wrap ((t.ops:Int)+1)=(t.ops:Int)+1:=by rw[IntKind.wrap_i64];omega
 have n2:IntKind.i64.wrap ((σ.seq:Int)+1)=(σ.seq:Int)+1:=by rw[IntKind.wrap_i64];omega
 clear hL r0 g0 f0 hs ho he hn hop hsq HF hf hc4 hcq hV ht;go_enter Tryz.func35,Tryz.ntmps35;go_wp2_with (first|(go_at_call 36;refine (hsok.out _).mono ?_;rintro e w' ⟨rfl,rfl⟩)|(go_at_call 66;refine (hok.out _).mono ?_;rintro e w1 ⟨rfl,hb⟩;obtain⟨r1,g1,f1,x1,x2,x3,x4,x5,x6⟩:=HW.out w1 hb;have y0:=f1.cell 0 (v:=zi (o.kind:Int)) rfl;have y1:=f1.cell 1 (v:=zi (o.key:Int)) rfl;have y2:=f1.cell 2 (v:=zi (o.hi:Int)) rfl;have y3:=f1.cell 3 (v:=zi (o.value:Int)) rfl;have H1:=zH hb;clear r1 g1 f1 hb)|(go_at_call 67;refine (hen.out _).mono ?_;rintro e w2 ⟨rfl,hb2⟩;obtain⟨r1,g1,f1,x1,x2,x3,x4,x5,x6⟩:=HW.out w2 (H1.out.trans (hb2.mono H1.out.size));have y0:=f1.cell 0 (v:=zi (o.kind:Int)) rfl;have y1:=f1.cell 1 (v:=zi (o.key:Int)) rfl;have y2:=f1.cell 2 (v:=zi (o.hi:Int)) rfl;have y3:=f1.cell 3 (v:=zi (o.value:Int)) rfl;have H2:=zH (zA r1 (zA g1 f1));clear r1 g1 f1 hb2));obtain⟨r1,g1,f1⟩:=H2.out;obtain⟨hL,ht,hn,hs,hc4,hcq⟩:=HL0.out;obtain⟨rt,gt⟩:=r1.setTxn ht {t with ops:=t.ops+1} 5 (zi ((t.ops:Int)+1)) rfl rfl rfl rfl rfl;obtain⟨ra,ga1⟩:=rt.seqSet (σ.seq+1);rw[show ((σ.seq+1:Nat):Int)=(σ.seq:Int)+1 from rfl] at ra ga1;have ga:=(g1.trans gt).trans ga1;have fa:=f1.grow (gt.trans ga1);clear ga1 rt gt;generalize (w2.setCell ⟨A.bt s,5,none⟩ (zi ((t.ops:Int)+1))).setCell ⟨A.be,22,none⟩ (zi ((σ.seq:Int)+1))=w3 at*;have hseq:=ra.eng 22 (v:=zi ((σ.seq:Int)+1)) rfl;have o0:=fa.cell 0 (v:=zi (o.kind:Int)) rfl;have o1:=fa.cell 1 (v:=zi (o.key:Int)) rfl;have o2:=fa.cell 2 (v:=zi (o.hi:Int)) rfl;have o3:=fa.cell 3 (v:=zi (o.value:Int)) rfl;have hB:Below w3.heap.size w3 (w3.alloc (.cells #[zi (o.kind:Int),zi (o.key:Int),zi (o.hi:Int),zi (o.value:Int),.nilFunc,zi 0,zi 0,.slice none 0 0,zi 0,zi 0,.bool false,.bool false,zi ((σ.seq:Int)+1)] 124)).drew:=((Below.refl _ _).alloc (Nat.le_refl _) _).drew;have hblk:(w3.alloc (.cells #[zi (o.kind:Int),zi (o.key:Int),zi (o.hi:Int),zi (o.value:Int),.nilFunc,zi 0,zi 0,.slice none 0 0,zi 0,zi 0,.bool false,.bool false,zi ((σ.seq:Int)+1)] 124)).drew.heap[w3.heap.size]? =some (.cells (callCs (A.newCall s w3.heap.size .nilFunc) s (callOf o (σ.seq+1))).toArray 124):=by
  rw[show (callCs (A.newCall s w3.heap.size .nilFunc) s (callOf o (σ.seq+1))).toArray=#[zi (o.kind:Int),zi (o.key:Int),zi (o.hi:Int),zi (o.value:Int),.nilFunc,zi 0,zi 0,.slice none 0 0,zi 0,zi 0,.bool false,.bool false,zi ((σ.seq:Int)+1)] by simp[callCs,Book.newCall,upF,callOf]];exact heap_alloc_new w3 _
 have hn1:({(σ.setT s {t with ops:=t.ops+1}) with seq:=σ.seq+1}:St).calls.getD s none=none:=hn;obtain⟨rb,gb⟩:=ra.newCall hB hs (Nat.le_refl _) .nilFunc (callOf o (σ.seq+1)) rfl hblk hn1;obtain⟨A1,hA1⟩:∃ A1:Book,A1=A.newCall s w3.heap.size .nilFunc:=⟨_,rfl⟩
 rw[←hA1] at rb gb;have e1:A1.be=A.be:=by rw[hA1];rfl
 have e2:A1.bt=A.bt:=by rw[hA1];rfl
 have e3:A1.bc s=w3.heap.size:=by rw[hA1];exact if_pos rfl
 have e4:A1.mp=A.mp:=by rw[hA1];rfl
 have hFF:=HFF.out.1 A1 _ rb (e4.trans hL.mp);rw[HFF.out.2,e1,e2,e3] at hFF;have hst:∀ A5:Book,Stay A1 A5 s→StayQ A A5 s:=fun A5 st=>by
  refine⟨st.bf.trans (by rw[hA1];rfl),st.mp.trans e4,st.mt.trans (by rw[hA1];rfl),fun q _=>by rw[st.bt,e2],fun q hq=>by rw[st.bc,hA1];exact if_neg hq,fun q hq=>(st.bx q hq).trans (by rw[hA1];rfl),fun q hq=>(st.vpairs q hq).trans (by rw[hA1];exact upF_other _ _ hq),fun q hq=>by rw[st.vnext,hA1];exact upF_other _ _ hq,fun q hq=>by rw[st.vcall,hA1];rfl⟩
 have HN:Hid (∀ A5 w5 v A6,A6={A5 with vnext:=upF A5.vnext s v}→Rep A5 σ4 w5→Stay A1 A5 s→w5.cell? ⟨w3.heap.size,4,none⟩=some (A5.vnext s)∧w5.frozen? ⟨w3.heap.size,4,none⟩=false∧Rep A6 (σ4.setC s {c4 with k:=some k}) (w5.setCell ⟨w3.heap.size,4,none⟩ v)∧Grow A5.L w5 A5.L (w5.setCell ⟨w3.heap.size,4,none⟩ v)∧(w5.setCell ⟨w3.heap.size,4,none⟩ v).cell? ⟨A.be,13+s,none⟩=some (A5.vcall s)∧(w5.setCell ⟨w3.heap.size,4,none⟩ v).frozen? ⟨A.be,13+s,none⟩=false):=by
  intro A5 w5 v A6 hA6 q st;have ebc:A5.bc s=w3.heap.size:=by rw[st.bc];exact e3
  have x4:=q.call hc4 4 (v:=A5.vnext s) rfl;have z4:=q.callF hc4 4;obtain⟨r6,g6⟩:=q.nextSet hc4 v (some k);rw[←hA6,ebc] at r6;rw[ebc] at x4 z4 g6;have e6:A6.be=A.be:=by rw[hA6];exact st.be.trans e1
  have m13:=r6.eng (13+s) (engCs_call A6 _ hs);have z13:=r6.engF (13+s);rw[e6] at m13 z13;rw[show A6.vcall=A5.vcall by rw[hA6]] at m13;exact⟨x4,z4,r6,g6,m13,z13⟩
 have HY:=zH (zA hFF (zA gb (zA ga (zA hst (zA e3 (zA e1 (zA hc4 (zA hcq hs))))))));clear hL ht hn hs hc4 hcq ra ga fa hB hblk hn1 rb gb hA1 e1 e2 e3 e4 hFF hst r1 g1 f1
 go_region
 generalize hw4:(w3.alloc _).drew=w4 at*;clear hseq o0 o1 o2 o3 hw4;go_wp2_with (go_at_call 68;refine HY.out.1.mono ?_;rintro e w5 ⟨A5,v,rfl,p1,p2,p3,p4⟩;obtain⟨f5,u5,u6,rfl,_⟩:=KRep.enter p4;obtain⟨x4,z4,r6,g6,m13,z13⟩:=HN.out A5 w5 (.func (.func f5) u5 u6) _ rfl p1 p3;have HP:=zH (zA p2 (zA p3 (zA p4 (zA r6 g6))));clear p1 p2 p3 p4 r6 g6);go_ret;obtain⟨_,gb,ga,hst,e3,e1,hc4,hcq,hs⟩:=HY.out;obtain⟨p2,p3,p4,r6,g6⟩:=HP.out;obtain⟨r7,g7⟩:=r6.vcallSet hs (.pointer (some ⟨w3.heap.size,0,none⟩));obtain⟨A7,hA7⟩:∃ A7:Book,A7={A5 with vnext:=upF A5.vnext s (.func (.func f5) u5 u6),vcall:=upF A5.vcall s (.pointer (some ⟨w3.heap.size,0,none⟩))}:=⟨_,rfl⟩
 rw[show ({A5 with vnext:=upF A5.vnext s (.func (.func f5) u5 u6)}:Book).be=A.be from p3.be.trans e1] at g7;have r8:Rep A7 (σ4.setC s {c4 with k:=some k}) ((w5.setCell ⟨w3.heap.size,4,none⟩ (.func (.func f5) u5 u6)).setCell ⟨A.be,13+s,none⟩ (.pointer (some ⟨w3.heap.size,0,none⟩))):=by
  rw[hA7,←show A5.be=A.be from p3.be.trans e1];exact r7
 have e7L:A7.L=A5.L:=by rw[hA7]
 have gg:Grow A.L w A7.L ((w5.setCell ⟨w3.heap.size,4,none⟩ (.func (.func f5) u5 u6)).setCell ⟨A.be,13+s,none⟩ (.pointer (some ⟨w3.heap.size,0,none⟩))):=by
  rw[e7L];exact (((ga.trans gb).trans p2).trans g6).trans g7
 have sq:=hst A5 p3;have hc':(σ4.setC s {c4 with k:=some k}).calls.getD s none=some {c4 with k:=some k}:=by rw[getC_set (lt_of_call hc4),if_pos rfl]
 refine⟨A7,rfl,Live.of (s:=s) HL0.out.1 HSW.out r8 gg ⟨by rw[hA7];exact sq.bf,by rw[hA7];exact sq.mp,by rw[hA7];exact sq.mt,fun q hq=>by rw[hA7];exact sq.bt q hq,fun q hq=>by rw[hA7];exact sq.bc q hq,fun q hq=>by rw[hA7];exact sq.bx q hq,fun q hq=>by rw[hA7];exact sq.vpairs q hq,fun q hq=>by rw[hA7];exact (upF_other _ _ hq).trans (sq.vnext q hq),fun q hq=>by rw[hA7];exact (upF_other _ _ hq).trans (sq.vcall q hq)⟩ (fun q hq=>?_) (fun c' hcc=>?_) (fun hnn=>by have h0:=hc'.symm.trans hnn;cases h0),gg,by rw[hA7];exact sq.be⟩
 · rw[setC_getQ _ hq];exact hcq q hq
 · obtain rfl:{c4 with k:=some k}=c':=Option.some.inj (hc'.symm.trans hcc)
   refine⟨?_,k,rfl,?_⟩
   · rw[hA7]
     show upF A5.vcall s _ s=ptr (A5.bc s);rw[upF_same,p3.bc,e3]
   · have ek:kp A7 (σ4.setC s {c4 with k:=some k}) s=kp A5 σ4 s:=by unfold kp;rw[call_get hc',call_get hc4,hA7]
     have ev:A7.vnext s=.func (.func f5) u5 u6:=by rw[hA7];exact upF_same _ _ _
     rw[ek,ev,e7L];exact p4.grow (g6.trans g7)
theorem k_drawH (hR:Rep A σ w) (s:Nat) (x now:Nat) (hx:x<18446744073709551616) (hi:lastOf x≤2000) (hcnt:σ.count<4000000000000000000) (b0 b1 b2:Nat)
 (B0:Box A.L w b0 (.pointer (some ⟨A.be,0,none⟩))) (B1:Box A.L w b1 (zu (x:Int))) (B2:TurnBox (kp A σ s) A.L w b2 x now):
 Calls Tryz.prog 115 #[.pointer (some ⟨b0,0,none⟩),.pointer (some ⟨b1,0,none⟩),.pointer (some ⟨b2,0,none⟩)] w (Ran A w s (σ.run s (.drawH x now))):=by
 have c0:=B0.cell;have c1:=B1.cell;have HH:=zH (help_any hR x hx hi hcnt);obtain⟨tv,X2,m0,m1,m2,m3,m4,htv,N0,N1,N2,N3,N4⟩:=B2;have HB:Hid (∀ w1,Grow A.L w A.L w1→w1.cell? ⟨b2,0,none⟩=some tv):=fun w1 g=>(X2.grow g).cell
 have HN:=zH (zA N0 (zA N1 (zA N2 (zA N3 N4))));have hrun:σ.run s (.drawH x now)=(σ.help x,some (.turn x now)):=rfl;rw[hrun];clear hR hx hi hcnt B0 B1 X2 N0 N1 N2 N3 N4 hrun;subst htv;go_enter Tryz.func115,Tryz.ntmps115;go_wp2_with (go_at_call 59;refine HH.out.mono ?_;rintro e w1 ⟨rfl,q1,q2⟩;have d2:=HB.out w1 q2;have HQ:=zH (zA q1 q2);clear q1 q2);go_ret;obtain⟨q1,q2⟩:=HQ.out;obtain⟨N0,N1,N2,N3,N4⟩:=HN.out;exact⟨A,_,rfl,q1,q2,Stay.refl _ _,_,_,_,_,_,rfl,N0.grow q2,N1.grow q2,N2.grow q2,N3.grow q2,N4.grow q2⟩
theorem k_draw_over (hR:Rep A σ w) (s:Nat) (hx:σ.word 0<18446744073709551616) (hcnt:σ.count<4000000000000000000) (b0 b1 b2:Nat)
 (B0:Box A.L w b0 (.pointer (some ⟨A.be,0,none⟩))) (B1:Box A.L w b1 (.pointer (some ⟨A.bt s,0,none⟩))) (B2:Box A.L w b2 (.pointer (some ⟨A.bc s,0,none⟩))) (ho:σ.limit≤timeOf (σ.word 0)):
 Calls Tryz.prog 111 #[.pointer (some ⟨b0,0,none⟩),.pointer (some ⟨b1,0,none⟩),.pointer (some ⟨b2,0,none⟩)] w (Ran A w s (σ.run s .draw)):=by
 have c0:=B0.cell;have e2:=hR.z2;have HL:=zH (load_i hR 0 0 rfl (by rw[hR.nw];omega) hcnt);have HD:=zH (fun w'=>drawn_any (σ.word 0) hx w');have HB:Hid (∀ w1,Rep A σ.tick w1→Grow A.L w A.L w1→∀ W3,(w1.alloc (.cells #[zu (σ.word 0:Int)] 22)).alloc (.cells #[zu (timeOf (σ.word 0):Int)] 22)=W3→∀ n w5,W3.drewN n=w5→Rep A σ.tick w5∧Grow A.L w A.L w5∧Fix A.L w5 w1.heap.size (.cells #[zu (σ.word 0:Int)] 22)∧Fix A.L w5 (w1.heap.size+1) (.cells #[zu (timeOf (σ.word 0):Int)] 22)∧w5.cell? ⟨b0,0,none⟩=some (.pointer (some ⟨A.be,0,none⟩))∧w5.cell? ⟨b1,0,none⟩=some (.pointer (some ⟨A.bt s,0,none⟩))∧w5.cell? ⟨b2,0,none⟩=some (.pointer (some ⟨A.bc s,0,none⟩))∧w5.cell? ⟨A.be,1,none⟩=some (zu (σ.limit:Int))∧W3.cell? ⟨w1.heap.size,0,none⟩=some (zu (σ.word 0:Int))∧W3.cell? ⟨w1.heap.size+1,0,none⟩=some (zu (timeOf (σ.word 0):Int))∧W3.cell? ⟨b0,0,none⟩=some (.pointer (some ⟨A.be,0,none⟩))∧W3.cell? ⟨A.be,1,none⟩=some (zu (σ.limit:Int))):=by
  rintro w1 q1 q2 W3 rfl n w5 rfl;obtain⟨r3,g3,f0,f1⟩:=allocs2 q1 #[zu (σ.word 0:Int)] 22 #[zu (timeOf (σ.word 0):Int)] 22;have gd:=Grow.drewN A.L ((w1.alloc (.cells #[zu (σ.word 0:Int)] 22)).alloc (.cells #[zu (timeOf (σ.word 0):Int)] 22)) n;have gg:=(q2.trans g3).trans gd;exact⟨r3.drewN n,gg,f0.grow gd,f1.grow gd,(B0.grow gg).cell,(B1.grow gg).cell,(B2.grow gg).cell,(r3.drewN n).eng 1 rfl,f0.cell 0 rfl,f1.cell 0 rfl,(B0.grow (q2.trans g3)).cell,r3.eng 1 rfl⟩
 have HX:=zH (zA B0 (zA B1 B2));have hrun:σ.run s .draw=(σ.tick,some (.abort 14 6)):=by simp only[St.run];exact if_pos ho
 rw[hrun];clear hR hx hcnt B0 B1 B2 hrun;generalize σ.word 0=x at*;generalize timeOf x=now at*;generalize lastOf x=last at*;generalize σ.limit=lim at*;have d1:decide ((lim:Int)≤(now:Int))=true:=by simpa using ho
 have d2:((lim:Int)≤(now:Int))=True:=by simpa using ho
 have d3:(lim≤now)=True:=by simpa using ho
 clear ho;go_enter Tryz.func111,Tryz.ntmps111;go_wp2_with (first|(go_at_call 58;refine HL.out.mono ?_;rintro e w1 ⟨rfl,q1,q2⟩;obtain⟨_,_,_,_,_,_,_,_,y1,y2,y3,y4⟩:=HB.out w1 q1 q2 _ rfl 0 _ rfl;have HQ:=zH (zA q1 q2);clear q1 q2)|(go_at_call 54;refine (HD.out _).mono ?_;rintro e w' ⟨rfl,rfl⟩));generalize hw3:(w1.alloc _).alloc _=w3 at*
 go_quiet (fail)
 generalize hw5:w3.drewN _=w5;obtain⟨r5,g5,f0,f1,z0,z1,z2,z3,_⟩:=HB.out w1 HQ.out.1 HQ.out.2 w3 hw3 _ w5 hw5;clear y1 y2 y3 y4 hw3 hw5;have ha:Calls Tryz.prog 91 #[.pointer (some ⟨A.be,0,none⟩),.pointer (some ⟨A.bt s,0,none⟩),.pointer (some ⟨A.bc s,0,none⟩),zi 14,zi 6] w5 (Tells A w5 s (σ.tick,.abort 14 6)):=abort_any r5 s 14 6;have HA:=zH (zA ha g5);clear r5 g5 f0 f1 ha;go_wp2_with (go_at_call 91;refine HA.out.1.mono ?_;rintro e w2 ⟨A2,v,rfl,p1,p2,p3,p4⟩);go_ret;exact⟨A2,v,rfl,p1,HA.out.2.trans p2,p3,p4⟩
theorem k_draw_turn (hR:Rep A σ w) (s:Nat) (hx:σ.word 0<18446744073709551616) (hcnt:σ.count<4000000000000000000) (b0 b1 b2:Nat)
 (B0:Box A.L w b0 (.pointer (some ⟨A.be,0,none⟩))) (B1:Box A.L w b1 (.pointer (some ⟨A.bt s,0,none⟩))) (B2:Box A.L w b2 (.pointer (some ⟨A.bc s,0,none⟩))) (ho:¬ σ.limit≤timeOf (σ.word 0)) (hl:lastOf (σ.word 0)=0):
 Calls Tryz.prog 111 #[.pointer (some ⟨b0,0,none⟩),.pointer (some ⟨b1,0,none⟩),.pointer (some ⟨b2,0,none⟩)] w (Ran A w s (σ.run s .draw)):=by
 have c0:=B0.cell;have e2:=hR.z2;have HL:=zH (load_i hR 0 0 rfl (by rw[hR.nw];omega) hcnt);have HD:=zH (fun w'=>drawn_any (σ.word 0) hx w');have HB:Hid (∀ w1,Rep A σ.tick w1→Grow A.L w A.L w1→∀ W3,(w1.alloc (.cells #[zu (σ.word 0:Int)] 22)).alloc (.cells #[zu (timeOf (σ.word 0):Int)] 22)=W3→∀ n w5,W3.drewN n=w5→Rep A σ.tick w5∧Grow A.L w A.L w5∧Fix A.L w5 w1.heap.size (.cells #[zu (σ.word 0:Int)] 22)∧Fix A.L w5 (w1.heap.size+1) (.cells #[zu (timeOf (σ.word 0):Int)] 22)∧w5.cell? ⟨b0,0,none⟩=some (.pointer (some ⟨A.be,0,none⟩))∧w5.cell? ⟨b1,0,none⟩=some (.pointer (some ⟨A.bt s,0,none⟩))∧w5.cell? ⟨b2,0,none⟩=some (.pointer (some ⟨A.bc s,0,none⟩))∧w5.cell? ⟨A.be,1,none⟩=some (zu (σ.limit:Int))∧W3.cell? ⟨w1.heap.size,0,none⟩=some (zu (σ.word 0:Int))∧W3.cell? ⟨w1.heap.size+1,0,none⟩=some (zu (timeOf (σ.word 0):Int))∧W3.cell? ⟨b0,0,none⟩=some (.pointer (some ⟨A.be,0,none⟩))∧W3.cell? ⟨A.be,1,none⟩=some (zu (σ.limit:Int))):=by
  rintro w1 q1 q2 W3 rfl n w5 rfl;obtain⟨r3,g3,f0,f1⟩:=allocs2 q1 #[zu (σ.word 0:Int)] 22 #[zu (timeOf (σ.word 0):Int)] 22;have gd:=Grow.drewN A.L ((w1.alloc (.cells #[zu (σ.word 0:Int)] 22)).alloc (.cells #[zu (timeOf (σ.word 0):Int)] 22)) n;have gg:=(q2.trans g3).trans gd;exact⟨r3.drewN n,gg,f0.grow gd,f1.grow gd,(B0.grow gg).cell,(B1.grow gg).cell,(B2.grow gg).cell,(r3.drewN n).eng 1 rfl,f0.cell 0 rfl,f1.cell 0 rfl,(B0.grow (q2.trans g3)).cell,r3.eng 1 rfl⟩
 have HX:=zH (zA B0 (zA B1 B2));have hrun:σ.run s .draw=(σ.tick,some (.turn (σ.word 0) (timeOf (σ.word 0)))):=by simp only[St.run];rw[if_neg (show ¬ σ.tick.limit≤_ from ho),if_pos hl]
 rw[hrun];clear hR hx hcnt B0 B1 B2 hrun;generalize σ.word 0=x at*;generalize timeOf x=now at*;generalize lastOf x=last at*;generalize σ.limit=lim at*;have d1:decide ((lim:Int)≤(now:Int))=false:=by simpa using ho
 have d2:((lim:Int)≤(now:Int))=False:=by simpa using ho
 have d3:(lim≤now)=False:=by simpa using ho
 have l1:((last:Int)==0)=true:=by simpa using hl
 have l2:((last:Int)=0)=True:=by simpa using hl
 clear ho hl;go_enter Tryz.func111,Tryz.ntmps111;go_wp2_with (first|(go_at_call 58;refine HL.out.mono ?_;rintro e w1 ⟨rfl,q1,q2⟩;obtain⟨_,_,_,_,_,_,_,_,y1,y2,y3,y4⟩:=HB.out w1 q1 q2 _ rfl 0 _ rfl;have HQ:=zH (zA q1 q2);clear q1 q2)|(go_at_call 54;refine (HD.out _).mono ?_;rintro e w' ⟨rfl,rfl⟩));generalize hw3:(w1.alloc _).alloc _=w3 at*
 go_quiet (fail)
 generalize hw5:w3.drewN _=w5;obtain⟨r5,g5,f0,f1,z0,z1,z2,z3,_⟩:=HB.out w1 HQ.out.1 HQ.out.2 w3 hw3 _ w5 hw5;clear y1 y2 y3 y4 hw3 hw5;obtain⟨r6,g6,f2⟩:=allocs1 r5 #[.func (.func 112) #[] #[.pointer (some ⟨b0,0,none⟩),.pointer (some ⟨w1.heap.size,0,none⟩),.pointer (some ⟨w1.heap.size+1,0,none⟩),.pointer (some ⟨b1,0,none⟩),.pointer (some ⟨b2,0,none⟩)]] 121;have u7:=f2.cell 0 (v:=.func (.func 112) #[] #[.pointer (some ⟨b0,0,none⟩),.pointer (some ⟨w1.heap.size,0,none⟩),.pointer (some ⟨w1.heap.size+1,0,none⟩),.pointer (some ⟨b1,0,none⟩),.pointer (some ⟨b2,0,none⟩)]) rfl;have HZ:=zH (zA r6 (zA (g5.trans g6) (zA (f0.grow g6) (zA (f1.grow g6) f2))));clear r5 g5 f0 f1 r6 g6 f2;go_wp2_with fail;go_ret;obtain⟨r6,g6,f0,f1,f2⟩:=HZ.out;obtain⟨B0,B1,B2⟩:=HX.out;exact⟨A,_,rfl,r6,g6,Stay.refl _ _,_,_,_,_,_,rfl,B0.grow g6,f0.box,f1.box,B1.grow g6,B2.grow g6⟩
theorem k_draw_help (hR:Rep A σ w) (s:Nat) (hx:σ.word 0<18446744073709551616) (hcnt:σ.count<4000000000000000000) (b0 b1 b2:Nat)
 (B0:Box A.L w b0 (.pointer (some ⟨A.be,0,none⟩))) (B1:Box A.L w b1 (.pointer (some ⟨A.bt s,0,none⟩))) (B2:Box A.L w b2 (.pointer (some ⟨A.bc s,0,none⟩))) (ho:¬ σ.limit≤timeOf (σ.word 0)) (hl:lastOf (σ.word 0)≠0):
 Calls Tryz.prog 111 #[.pointer (some ⟨b0,0,none⟩),.pointer (some ⟨b1,0,none⟩),.pointer (some ⟨b2,0,none⟩)] w (Ran A w s (σ.run s .draw)):=by
 have c0:=B0.cell;have e2:=hR.z2;have HL:=zH (load_i hR 0 0 rfl (by rw[hR.nw];omega) hcnt);have HD:=zH (fun w'=>drawn_any (σ.word 0) hx w');have HB:Hid (∀ w1,Rep A σ.tick w1→Grow A.L w A.L w1→∀ W3,(w1.alloc (.cells #[zu (σ.word 0:Int)] 22)).alloc (.cells #[zu (timeOf (σ.word 0):Int)] 22)=W3→∀ n w5,W3.drewN n=w5→Rep A σ.tick w5∧Grow A.L w A.L w5∧Fix A.L w5 w1.heap.size (.cells #[zu (σ.word 0:Int)] 22)∧Fix A.L w5 (w1.heap.size+1) (.cells #[zu (timeOf (σ.word 0):Int)] 22)∧w5.cell? ⟨b0,0,none⟩=some (.pointer (some ⟨A.be,0,none⟩))∧w5.cell? ⟨b1,0,none⟩=some (.pointer (some ⟨A.bt s,0,none⟩))∧w5.cell? ⟨b2,0,none⟩=some (.pointer (some ⟨A.bc s,0,none⟩))∧w5.cell? ⟨A.be,1,none⟩=some (zu (σ.limit:Int))∧W3.cell? ⟨w1.heap.size,0,none⟩=some (zu (σ.word 0:Int))∧W3.cell? ⟨w1.heap.size+1,0,none⟩=some (zu (timeOf (σ.word 0):Int))∧W3.cell? ⟨b0,0,none⟩=some (.pointer (some ⟨A.be,0,none⟩))∧W3.cell? ⟨A.be,1,none⟩=some (zu (σ.limit:Int))):=by
  rintro w1 q1 q2 W3 rfl n w5 rfl;obtain⟨r3,g3,f0,f1⟩:=allocs2 q1 #[zu (σ.word 0:Int)] 22 #[zu (timeOf (σ.word 0):Int)] 22;have gd:=Grow.drewN A.L ((w1.alloc (.cells #[zu (σ.word 0:Int)] 22)).alloc (.cells #[zu (timeOf (σ.word 0):Int)] 22)) n;have gg:=(q2.trans g3).trans gd;exact⟨r3.drewN n,gg,f0.grow gd,f1.grow gd,(B0.grow gg).cell,(B1.grow gg).cell,(B2.grow gg).cell,(r3.drewN n).eng 1 rfl,f0.cell 0 rfl,f1.cell 0 rfl,(B0.grow (q2.trans g3)).cell,r3.eng 1 rfl⟩
 have HX:=zH (zA B0 (zA B1 B2));have hrun:σ.run s .draw=(σ.tick,some (.drawH (σ.word 0) (timeOf (σ.word 0)))):=by simp only[St.run];rw[if_neg (show ¬ σ.tick.limit≤_ from ho),if_neg hl]
 rw[hrun];clear hR hx hcnt B0 B1 B2 hrun;generalize σ.word 0=x at*;generalize timeOf x=now at*;generalize lastOf x=last at*;generalize σ.limit=lim at*;have d1:decide ((lim:Int)≤(now:Int))=false:=by simpa using ho
 have d2:((lim:Int)≤(now:Int))=False:=by simpa using ho
 have d3:(lim≤now)=False:=by simpa using ho
 have l1:((last:Int)==0)=false:=by simpa using hl
 have l2:((last:Int)=0)=False:=by simpa using hl
 clear ho hl;go_enter Tryz.func111,Tryz.ntmps111;go_wp2_with (first|(go_at_call 58;refine HL.out.mono ?_;rintro e w1 ⟨rfl,q1,q2⟩;obtain⟨_,_,_,_,_,_,_,_,y1,y2,y3,y4⟩:=HB.out w1 q1 q2 _ rfl 0 _ rfl;have HQ:=zH (zA q1 q2);clear q1 q2)|(go_at_call 54;refine (HD.out _).mono ?_;rintro e w' ⟨rfl,rfl⟩));generalize hw3:(w1.alloc _).alloc _=w3 at*
 go_quiet (fail)
 generalize hw5:w3.drewN _=w5;obtain⟨r5,g5,f0,f1,z0,z1,z2,z3,_⟩:=HB.out w1 HQ.out.1 HQ.out.2 w3 hw3 _ w5 hw5;clear y1 y2 y3 y4 hw3 hw5;obtain⟨r6,g6,f2⟩:=allocs1 r5 #[.func (.func 112) #[] #[.pointer (some ⟨b0,0,none⟩),.pointer (some ⟨w1.heap.size,0,none⟩),.pointer (some ⟨w1.heap.size+1,0,none⟩),.pointer (some ⟨b1,0,none⟩),.pointer (some ⟨b2,0,none⟩)]] 121;have u7:=f2.cell 0 (v:=.func (.func 112) #[] #[.pointer (some ⟨b0,0,none⟩),.pointer (some ⟨w1.heap.size,0,none⟩),.pointer (some ⟨w1.heap.size+1,0,none⟩),.pointer (some ⟨b1,0,none⟩),.pointer (some ⟨b2,0,none⟩)]) rfl;have HZ:=zH (zA r6 (zA (g5.trans g6) (zA (f0.grow g6) (zA (f1.grow g6) f2))));clear r5 g5 f0 f1 r6 g6 f2;go_wp2_with fail;go_ret;obtain⟨r6,g6,f0,f1,f2⟩:=HZ.out;obtain⟨B0,B1,B2⟩:=HX.out;exact⟨A,_,rfl,r6,g6,Stay.refl _ _,_,_,_,rfl,B0.grow g6,f0.box,_,f2.box,_,_,_,_,_,rfl,B0.grow g6,f0.box,f1.box,B1.grow g6,B2.grow g6⟩
theorem k_draw (hR:Rep A σ w) (s:Nat) (hx:σ.word 0<18446744073709551616) (hcnt:σ.count<4000000000000000000) (b0 b1 b2:Nat)
 (B0:Box A.L w b0 (.pointer (some ⟨A.be,0,none⟩))) (B1:Box A.L w b1 (.pointer (some ⟨A.bt s,0,none⟩))) (B2:Box A.L w b2 (.pointer (some ⟨A.bc s,0,none⟩))):
 Calls Tryz.prog 111 #[.pointer (some ⟨b0,0,none⟩),.pointer (some ⟨b1,0,none⟩),.pointer (some ⟨b2,0,none⟩)] w (Ran A w s (σ.run s .draw)):=by
 by_cases ho:σ.limit≤timeOf (σ.word 0)
 · exact k_draw_over hR s hx hcnt b0 b1 b2 B0 B1 B2 ho
 · by_cases hl:lastOf (σ.word 0)=0
   · exact k_draw_turn hR s hx hcnt b0 b1 b2 B0 B1 B2 ho hl
   · exact k_draw_help hR s hx hcnt b0 b1 b2 B0 B1 B2 ho hl
theorem k_turn_miss (hR:Rep A σ w) (s:Nat) (t:Txn) (ht:σ.txns.getD s none=some t) (x now:Nat) (hn:now<281474976710655) (hid:t.id<65536) (htl:σ.tale.length<1000000) (hcnt:σ.count<4000000000000000000) (b0 b1 b2 b3 b4:Nat)
 (B0:Box A.L w b0 (.pointer (some ⟨A.be,0,none⟩))) (B1:Box A.L w b1 (zu (x:Int))) (B2:Box A.L w b2 (zu (now:Int))) (B3:Box A.L w b3 (.pointer (some ⟨A.bt s,0,none⟩))) (B4:Box A.L w b4 (.pointer (some ⟨A.bc s,0,none⟩))) (hm:σ.word 0≠x):
 Calls Tryz.prog 112 #[.pointer (some ⟨b0,0,none⟩),.pointer (some ⟨b1,0,none⟩),.pointer (some ⟨b2,0,none⟩),.pointer (some ⟨b3,0,none⟩),.pointer (some ⟨b4,0,none⟩)] w (Ran A w s (σ.run s (.turn x now))):=by
 have c0:=B0.cell;have c1:=B1.cell;have c2:=B2.cell;have c3:=B3.cell;have e2:=hR.z2;have t0:w.cell? ⟨A.bt s,0,none⟩=some (zi (t.id:Int)):=hR.txn ht 0 rfl;have n1:IntKind.u64.wrap ((now:Int)+1)=(now:Int)+1:=by rw[IntKind.wrap_u64];omega
 have hk:Calls Tryz.prog 61 #[zu ((now:Int)+1),zi (t.id:Int)] w.drew fun e w'=>e=.returned (zu ((clockW (now+1) t.id:Nat):Int))∧w'=w.drew:=flip (clock_any (now+1) t.id (by omega) hid w.drew)
 have HC:=zH hk;have HL:=zH (cas_i hR.drew 0 x (clockW (now+1) t.id) 0 rfl (by rw[hR.nw];omega) hcnt);have HG:=zG A.L w;have hrun:σ.run s (.turn x now)=(σ.tick,some .draw):=by simp[St.run,St.cas,hm]
 rw[hrun];have hb:(σ.word 0==x)=false:=by simpa using hm
 have hcs:σ.cas 0 x (clockW (now+1) t.id)=σ.tick:=if_neg hm;rw[hb,hcs] at HL;have HB:Hid (∀ w1,Rep A σ.tick w1→Grow A.L w A.L w1→Calls Tryz.prog 90 #[.pointer (some ⟨A.be,0,none⟩),.pointer (some ⟨A.bt s,0,none⟩),.pointer (some ⟨A.bc s,0,none⟩)] w1 (Tells A w1 s (σ.tick,.draw))∧w1.cell? ⟨b0,0,none⟩=some (.pointer (some ⟨A.be,0,none⟩))∧w1.cell? ⟨b3,0,none⟩=some (.pointer (some ⟨A.bt s,0,none⟩))∧w1.cell? ⟨b4,0,none⟩=some (.pointer (some ⟨A.bc s,0,none⟩))):=
  fun w1 q g=>⟨draw_any q s,(B0.grow g).cell,(B3.grow g).cell,(B4.grow g).cell⟩
 clear hR ht hn hid htl hcnt B0 B1 B2 B3 B4 hm hrun hb hcs hk;go_enter Tryz.func112,Tryz.ntmps112;go_wp2_with fail;refine wp_region_still_tail 12 (by kernel_rfl) (by kernel_rfl) ?_;simp only[zta,ztb,ztc,ztd]
 repeat still_step
 still_call HC.out
 refine wpStill_nil ?_;change wpList _ _ _ _ _ w.drew;generalize w.drew=wd at*;go_wp2_with (first|(go_at_call 60;refine HL.out.mono ?_;rintro e w1 ⟨rfl,q1,q2⟩;have g1:=HG.out.trans q2;obtain⟨hf,d0,d3,d4⟩:=HB.out w1 q1 g1;have HQ:=zH (zA hf g1);clear q1 q2 g1 hf)|(go_at_call 90;refine HQ.out.1.mono ?_;rintro e w2 ⟨A2,v,rfl,p1,p2,p3,p4⟩));go_ret;exact⟨A2,v,rfl,p1,HQ.out.2.trans p2,p3,p4⟩
theorem k_turn_hit (hR:Rep A σ w) (s:Nat) (t:Txn) (ht:σ.txns.getD s none=some t) (x now:Nat) (hn:now<281474976710655) (hid:t.id<65536) (htl:σ.tale.length<1000000) (hcnt:σ.count<4000000000000000000) (b0 b1 b2 b3 b4:Nat)
 (B0:Box A.L w b0 (.pointer (some ⟨A.be,0,none⟩))) (B1:Box A.L w b1 (zu (x:Int))) (B2:Box A.L w b2 (zu (now:Int))) (B3:Box A.L w b3 (.pointer (some ⟨A.bt s,0,none⟩))) (B4:Box A.L w b4 (.pointer (some ⟨A.bc s,0,none⟩))) (hm:σ.word 0=x):
 Calls Tryz.prog 112 #[.pointer (some ⟨b0,0,none⟩),.pointer (some ⟨b1,0,none⟩),.pointer (some ⟨b2,0,none⟩),.pointer (some ⟨b3,0,none⟩),.pointer (some ⟨b4,0,none⟩)] w (Ran A w s (σ.run s (.turn x now))):=by
 have c0:=B0.cell;have c1:=B1.cell;have c2:=B2.cell;have c3:=B3.cell;have e2:=hR.z2;have t0:w.cell? ⟨A.bt s,0,none⟩=some (zi (t.id:Int)):=hR.txn ht 0 rfl;have n1:IntKind.u64.wrap ((now:Int)+1)=(now:Int)+1:=by rw[IntKind.wrap_u64];omega
 have hk:Calls Tryz.prog 61 #[zu ((now:Int)+1),zi (t.id:Int)] w.drew fun e w'=>e=.returned (zu ((clockW (now+1) t.id:Nat):Int))∧w'=w.drew:=flip (clock_any (now+1) t.id (by omega) hid w.drew)
 have HC:=zH hk;have HL:=zH (cas_i hR.drew 0 x (clockW (now+1) t.id) 0 rfl (by rw[hR.nw];omega) hcnt);have HG:=zG A.L w;have hrun:σ.run s (.turn x now)=(((σ.put 0 (clockW (now+1) t.id)).setT s {t with end_:=now+1}).event {kind:=3,t:=t.id,n:=now+1},some .helpJ):=by
  have e:∀ σ':St,σ'.txns=σ.txns→σ'.t s=t:=fun σ' h=>by unfold St.t;rw[h,ht];rfl
  simp[St.run,St.cas,hm,e _ (show (σ.put 0 (clockW (now+1) t.id)).txns=σ.txns from rfl),e σ rfl]
 rw[hrun];have hb:(σ.word 0==x)=true:=by simpa using hm
 have hcs:σ.cas 0 x (clockW (now+1) t.id)=σ.put 0 (clockW (now+1) t.id):=if_pos hm;rw[hb,hcs] at HL
 have HB : Hid (∀ w1, Rep A (σ.put 0 (clockW (now + 1) t.id)) w1 → Grow A.L w A.L w1 → w1.cell? ⟨b2, 0, none⟩ = some (zu (now : Int)) ∧ w1.cell? ⟨b3, 0, none⟩ = some (.pointer (some ⟨A.bt s, 0, none⟩)) ∧ w1.cell? ⟨A.bt s, 4, none⟩ = some (zu (t.end_ : Int)) ∧ w1.frozen? ⟨A.bt s, 4, none⟩ = false ∧
     (∀ ws, w1.setCell ⟨A.bt s, 4, none⟩ (zu ((now : Int) + 1)) = ws → ws.cell? ⟨b0, 0, none⟩ = some (.pointer (some ⟨A.be, 0, none⟩)) ∧ ws.cell? ⟨b3, 0, none⟩ = some (.pointer (some ⟨A.bt s, 0, none⟩)) ∧ ws.cell? ⟨A.bt s, 0, none⟩ = some (zi (t.id : Int)) ∧ ws.cell? ⟨A.bt s, 4, none⟩ = some (zu ((now : Int) + 1)) ∧ Grow A.L w A.L ws ∧
       Calls Tryz.prog 65 #[.pointer (some ⟨A.be,0,none⟩),.agg #[zi 3,zi (t.id:Int),zu ((now:Int)+1),zi 0,zi 0,zi 0,zi 0,zi 0,zi 0,.slice none 0 0,zi 0,zi 0]] ws.drew (Does A ws.drew s (((σ.put 0 (clockW (now+1) t.id)).setT s {t with end_:=now+1}).event {kind:=3,t:=t.id,n:=now+1}) (.tuple #[])))):=by
  intro w1 q g;have ht1:(σ.put 0 (clockW (now+1) t.id)).txns.getD s none=some t:=ht;refine⟨(B2.grow g).cell,(B3.grow g).cell,q.txn ht1 4 rfl,q.txnF ht1 4,?_⟩;rintro ws rfl;obtain⟨r2,g2⟩:=q.setTxn ht1 {t with end_:=now+1} 4 (zu ((now:Int)+1)) (by simp[txnCs]) rfl rfl rfl rfl;have ht2:((σ.put 0 (clockW (now+1) t.id)).setT s {t with end_:=now+1}).txns.getD s none=some {t with end_:=now+1}:=by rw[getT_set (lt_of_txn ht1),if_pos rfl]
  have gg:=g.trans g2;exact⟨(B0.grow gg).cell,(B3.grow gg).cell,r2.txn ht2 0 rfl,r2.txn ht2 4 rfl,gg,event_any r2.drew s _ 3 t.id (now+1) 0 0 0 0 0 0 0 0 none 0 0 rfl (PRow.nil _ _) htl⟩
 have HX:=zH (zA B0 (zA B3 B4));clear hR ht hn hid htl hcnt B0 B1 B2 B3 B4 hm hrun hb hcs hk;go_enter Tryz.func112,Tryz.ntmps112;go_wp2_with fail;refine wp_region_still_tail 12 (by kernel_rfl) (by kernel_rfl) ?_;simp only[zta,ztb,ztc,ztd]
 repeat still_step
 still_call HC.out
 refine wpStill_nil ?_;change wpList _ _ _ _ _ w.drew;generalize w.drew=wd at*;go_wp2_with (go_at_call 60;refine HL.out.mono ?_;rintro e w1 ⟨rfl,q1,q2⟩;have g1:=HG.out.trans q2;obtain⟨d2,d3,d4,d5,hf⟩:=HB.out w1 q1 g1;have HQ:=zH hf;clear q1 q2 g1 hf);generalize hws:World.setCell _ _ _=ws;obtain⟨a0,a3,a5,a4,gg,hf⟩:=HQ.out ws hws;have HE:=zH (zA hf gg);clear d2 d3 d4 d5 hf gg hws HQ;refine wp_region_still_tail 10 (by kernel_rfl) (by kernel_rfl) ?_;simp only[zta,ztb,ztc,ztd]
 repeat still_step
 refine wpStill_nil ?_;change wpList _ _ _ _ _ ws.drew;have HG2:Hid (Grow A.L ws A.L ws.drew):=Grow.drew _ _;generalize ws.drew=wd2 at*;go_wp2_with (go_at_call 65;refine HE.out.1.mono ?_;rintro e w2 ⟨rfl,A2,p1,p2,p3,p4,p5⟩;have HR:=zH (zA p1 (zA p2 (zA p3 (zA p4 p5))));clear p1 p2 p3 p4 p5);go_ret;obtain⟨p1,p2,p3,p4,p5⟩:=HR.out;obtain⟨B0,B3,B4⟩:=HX.out;have g3:=(HE.out.2.trans HG2.out).trans p2;refine⟨A2,_,rfl,p1,g3,p3,?_⟩;have ek:kp A2 (((σ.put 0 (clockW (now+1) t.id)).setT s {t with end_:=now+1}).event {kind:=3,t:=t.id,n:=now+1}) s=kp A σ s:=kp_same p3 p4 p5 rfl rfl;show KRep (kp A2 _ s) _ _ _ _;rw[ek];exact⟨_,_,_,rfl,B0.grow g3,B3.grow g3,B4.grow g3⟩
theorem k_turn (hR:Rep A σ w) (s:Nat) (t:Txn) (ht:σ.txns.getD s none=some t) (x now:Nat) (hn:now<281474976710655) (hid:t.id<65536) (htl:σ.tale.length<1000000) (hcnt:σ.count<4000000000000000000) (b0 b1 b2 b3 b4:Nat)
 (B0:Box A.L w b0 (.pointer (some ⟨A.be,0,none⟩))) (B1:Box A.L w b1 (zu (x:Int))) (B2:Box A.L w b2 (zu (now:Int))) (B3:Box A.L w b3 (.pointer (some ⟨A.bt s,0,none⟩))) (B4:Box A.L w b4 (.pointer (some ⟨A.bc s,0,none⟩))):
 Calls Tryz.prog 112 #[.pointer (some ⟨b0,0,none⟩),.pointer (some ⟨b1,0,none⟩),.pointer (some ⟨b2,0,none⟩),.pointer (some ⟨b3,0,none⟩),.pointer (some ⟨b4,0,none⟩)] w (Ran A w s (σ.run s (.turn x now))):=by
 by_cases hm:σ.word 0=x
 · exact k_turn_hit hR s t ht x now hn hid htl hcnt b0 b1 b2 b3 b4 B0 B1 B2 B3 B4 hm
 · exact k_turn_miss hR s t ht x now hn hid htl hcnt b0 b1 b2 b3 b4 B0 B1 B2 B3 B4 hm
def txnOf (id level bg:Nat):Txn:={id:=id,level:=level,begin_:=bg,end_:=0,ops:=0,keys:=[],cells:=[],reads:=[],bonds:=[],over:=false}
theorem help_count (σ:St) (x:Nat):(σ.help x).count=σ.count+1:=by unfold St.help St.cas;split<;>rfl
theorem help_place (σ:St) (x id:Nat):(σ.help x).place id=σ.place id:=by unfold St.help St.cas;split<;>rfl
theorem help_tale (σ:St) (x:Nat):(σ.help x).tale=σ.tale:=by unfold St.help St.cas;split<;>rfl
theorem cas_count (σ:St) (i a b:Nat):(σ.cas i a b).count=σ.count+1:=by unfold St.cas;split<;>rfl
theorem cas_place (σ:St) (i a b id:Nat):(σ.cas i a b).place id=σ.place id:=by unfold St.cas;split<;>rfl
theorem cas_txns (σ:St) (i a b:Nat):(σ.cas i a b).txns=σ.txns:=by unfold St.cas;split<;>rfl
theorem cas_calls (σ:St) (i a b:Nat):(σ.cas i a b).calls=σ.calls:=by unfold St.cas;split<;>rfl
theorem cas_tale (σ:St) (i a b:Nat):(σ.cas i a b).tale=σ.tale:=by unfold St.cas;split<;>rfl
def Begun (A:Book) (w:World) (σ':St) (id:Nat):Ending→World→Prop:=fun e w'=>∃ A',e=.returned (.tuple #[zi (id:Int),zi 0])∧Live A' σ' w'∧Grow A.L w A'.L w'∧A'.be=A.be
theorem begin_new (hL:Live A σ w) (s:Nat) (hs:s<8) (level:Nat) (hl1:1≤level) (hl2:level≤3) (hn:σ.txns.getD s none=none) (hcn:σ.calls.getD s none=none) (hmd:σ.made<2000) (hx:σ.word 0<18446744073709551616) (htm:timeOf (σ.word 0)<281474976710000) (hlim:timeOf (σ.word 0)<σ.limit) (hlo:lastOf (σ.word 0)=0) (hcnt:σ.count<3000000000000000000) (htl:σ.tale.length<1000000):
 Calls Tryz.prog 34 #[.pointer (some ⟨A.be,0,none⟩),zi (s:Int),zi (level:Int)] w (Begun A w (((((({σ.tick with made:=σ.made+1}:St).cas 0 (σ.word 0) (clockW (timeOf (σ.word 0)+1) 0)).put (σ.place (σ.made+1)) (pack 1 0)).put (1+s) (timeOf (σ.word 0)+1)).setT s (txnOf (σ.made+1) level (timeOf (σ.word 0)+1))).event {kind:=1,t:=σ.made+1,n:=timeOf (σ.word 0)+1,op:=⟨0,0,0,level⟩}) (σ.made+1)):=by
 have hR:=hL.rep;generalize hσ4:({σ.tick with made:=σ.made+1}:St).cas 0 (σ.word 0) (clockW (timeOf (σ.word 0)+1) 0)=σ4;have HS4:Hid (({σ.tick with made:=σ.made+1}:St).cas 0 (σ.word 0) (clockW (timeOf (σ.word 0)+1) 0)=σ4∧σ4.place (σ.made+1)=σ.place (σ.made+1)∧σ4.txns=σ.txns∧σ4.calls=σ.calls∧σ4.tale=σ.tale∧σ4.count<3000000000000000010):=by
  refine⟨hσ4,?_,?_,?_,?_,?_⟩<;>rw[←hσ4]
  · rw[cas_place];rfl
  · rw[cas_txns];rfl
  · rw[cas_calls];rfl
  · rw[cas_tale];rfl
  · rw[cas_count];show σ.count+1+1<_;omega
 clear hσ4;have b1:(s:Int)<8:=by omega
 have b0:(0:Int)≤(s:Int):=by omega
 have hsok:=zH (sessionOk s hs);have hlev:=zH (levelOk level hl1 hl2);have e2:=hR.z2;have v5:=hR.eng (5+s) (engCs_txn A σ hs);rw[show A.tp σ s=.pointer none by unfold Book.tp;rw[hn]] at v5;have v21:w.cell? ⟨A.be,21,none⟩=some (zi (σ.made:Int)):=hR.eng 21 rfl;have d1:decide ((2000:Int)≤(σ.made:Int))=false:=by simp;omega
 have d2:((2000:Int)≤(σ.made:Int))=False:=by simp;omega
 have d3:(2000≤σ.made)=False:=by simp;omega
 have l1:decide ((σ.limit:Int)≤(timeOf (σ.word 0):Int))=false:=by simp;omega
 have l2:((σ.limit:Int)≤(timeOf (σ.word 0):Int))=False:=by simp;omega
 have l3:(σ.limit≤timeOf (σ.word 0))=False:=by simp;omega
 have k1:decide ((0:Int)<(lastOf (σ.word 0):Int))=false:=by simp;omega
 have k2:((0:Int)<(lastOf (σ.word 0):Int))=False:=by simp;omega
 have k3:(0<lastOf (σ.word 0))=False:=by simp;omega
 have n1:IntKind.i64.wrap ((σ.made:Int)+1)=(σ.made:Int)+1:=by rw[IntKind.wrap_i64];omega
 have n2:IntKind.u64.wrap ((timeOf (σ.word 0):Int)+1)=(timeOf (σ.word 0):Int)+1:=by rw[IntKind.wrap_u64];omega
 have n3:IntKind.i64.wrap (1+(s:Int))=1+(s:Int):=by rw[IntKind.wrap_i64];omega
 have HLo:=zH (load_i hR 0 0 rfl (by rw[hR.nw];omega) (by omega));have HDr:=zH (fun w'=>drawn_any (σ.word 0) hx w');have H1:Hid (∀ w1,Rep A σ.tick w1→Grow A.L w A.L w1→w1.cell? ⟨A.be,1,none⟩=some (zu (σ.limit:Int))∧w1.cell? ⟨A.be,21,none⟩=some (zi (σ.made:Int))∧w1.frozen? ⟨A.be,21,none⟩=false):=
  fun w1 r g=>⟨r.eng 1 rfl,r.eng 21 rfl,r.engF 21⟩
 have hmm:∀ w,(Instr.makeMap 105 none).run Tryz.prog w=.ok (.map (some w.heap.size)) (w.alloc (.map #[] 0)):=fun w=>rfl
 have HL0:=zH (zA hL (zA hs (zA hn (zA hcn (zA hmd (zA htm (zA hcnt (zA htl hx))))))));clear hL hs hl1 hl2 hn hcn hmd hx htm hlim hlo hcnt htl;clear hR;go_enter Tryz.func34,Tryz.ntmps34;go_wp2_with (first|(go_at_call 36;refine (hsok.out _).mono ?_;rintro e w' ⟨rfl,rfl⟩)|(go_at_call 57;refine (hlev.out _).mono ?_;rintro e w' ⟨rfl,rfl⟩)|(go_at_call 58;refine HLo.out.mono ?_;rintro e w1 ⟨rfl,q1,q2⟩;obtain⟨y1,y2,y3⟩:=H1.out w1 q1 q2;have HQ1:=zH (zA q1 q2);clear q1 q2)|(go_at_call 54;refine (HDr.out _).mono ?_;rintro e w' ⟨rfl,rfl⟩));obtain⟨hL,hs,hn,hcn,hmd,htm,hcnt,htl,hx⟩:=HL0.out;obtain⟨r1,g1⟩:=HQ1.out;obtain⟨rm,gm⟩:=r1.madeSet (σ.made+1);rw[show ((σ.made+1:Nat):Int)=(σ.made:Int)+1 from rfl] at rm gm;have hz3:(w1.setCell ⟨A.be,21,none⟩ (zi ((σ.made:Int)+1))).heap.size=w1.heap.size:=by simp[World.setCell]
 generalize hw3:w1.setCell ⟨A.be,21,none⟩ (zi ((σ.made:Int)+1))=w3 at*;generalize hw4:(w3.alloc (.map #[] 0)).alloc _=w4;have r4:Rep A ({σ.tick with made:=σ.made+1}:St) w4:=by rw[←hw4];exact (rm.alloc _).alloc _
 have g34:Grow A.L w3 A.L w4:=by rw[←hw4];exact (Grow.alloc _ _ _).trans (Grow.alloc _ _ _)
 have g4:Grow A.L w A.L w4:=(g1.trans gm).trans g34;have hm4:w4.heap[w1.heap.size]? =some (.map #[] 0):=by rw[←hw4,←hz3];exact (Below.heap_alloc _ _ _ (by simp)).trans (heap_alloc_new w3 _)
 have hb4:w4.heap[w1.heap.size+1]? =some (.cells #[zi ((σ.made:Int)+1),zi (level:Int),zi (s:Int),zu ((timeOf (σ.word 0):Int)+1),zu 0,zi 0,.slice none 0 0,.map (some w1.heap.size),.slice none 0 0,.slice none 0 0,.int .u32 0,.int .i32 0,.int .u32 0,.bool false] 120):=by rw[←hw4,←hz3];exact heap_alloc2_new w3 _ _
 have hmL:A.L w1.heap.size=none:=by rw[←hz3];exact rm.mem.fresh _ (Nat.le_refl _)
 have hbL:A.L (w1.heap.size+1)=none:=by rw[←hz3];exact rm.mem.fresh _ (by omega)
 have hle:w.heap.size≤w1.heap.size:=g1.size;have F4:Fix A.L w4 (w1.heap.size+1) (.cells #[zi ((σ.made:Int)+1),zi (level:Int),zi (s:Int),zu ((timeOf (σ.word 0):Int)+1),zu 0,zi 0,.slice none 0 0,.map (some w1.heap.size),.slice none 0 0,.slice none 0 0,.int .u32 0,.int .i32 0,.int .u32 0,.bool false] 120):=⟨hbL,hb4⟩
 have M4:Fix A.L w4 w1.heap.size (.map #[] 0):=⟨hmL,hm4⟩
 have a2:=r4.eng 2 (v:=.pointer (some ⟨A.ba,0,none⟩)) rfl;have a3:=F4.cell 3 (v:=zu ((timeOf (σ.word 0):Int)+1)) rfl;have hk:Calls Tryz.prog 61 #[zu ((timeOf (σ.word 0):Int)+1),zi 0] w4.drew fun e w'=>e=.returned (zu ((clockW (timeOf (σ.word 0)+1) 0:Nat):Int))∧w'=w4.drew:=flip (clock_any (timeOf (σ.word 0)+1) 0 (by omega) (by omega) w4.drew)
 have HC:=zH hk;have HCA:=zH (cas_i r4.drew 0 (σ.word 0) (clockW (timeOf (σ.word 0)+1) 0) 0 rfl (by rw[r4.nw];omega) (by show σ.count+1<_;omega));have H4:=zH (zA g4 (zA F4 (zA M4 (zA hmL (zA hbL hle)))));clear hL hs hn hcn hmd htm hcnt htl hx r1 g1 rm gm hz3 hw3 hw4 r4 g34 g4 hm4 hb4 hmL hbL hle F4 M4 hk;refine wp_region_still_tail 10 (by kernel_rfl) (by kernel_rfl) ?_;simp only[zta,ztb,ztc,ztd]
 repeat still_step
 still_call HC.out
 refine wpStill_nil ?_;change wpList _ _ _ _ _ w4.drew;have HG4:Hid (Grow A.L w4 A.L w4.drew):=Grow.drew _ _;generalize w4.drew=wd4 at*;go_wp2_with (go_at_call 60;refine HCA.out.mono ?_;rintro e w5 ⟨rfl,q1,q2⟩);obtain⟨g4,F4,M4,hmL,hbL,hle⟩:=H4.out;obtain⟨hL,hs,hn,hcn,hmd,htm,hcnt,htl,hx⟩:=HL0.out;rw[HS4.out.1] at q1;obtain⟨-,p4,tx4,cl4,tl4,ct4⟩:=HS4.out;have g45:=HG4.out.trans q2;have F5:=F4.grow g45;have M5:=M4.grow g45;have g5:=g4.trans g45;have a2:=q1.eng 2 (v:=.pointer (some ⟨A.ba,0,none⟩)) rfl;have a0:=F5.cell 0 (v:=zi ((σ.made:Int)+1)) rfl;have hpl:Calls Tryz.prog 63 #[.pointer (some ⟨A.be,0,none⟩),zi ((σ.made:Int)+1)] w5.drew fun e w'=>e=.returned (zi ((σ.place (σ.made+1):Nat):Int))∧w'=w5.drew:=by
  have h:=place_still q1.drew (σ.made+1) (by omega);rw[p4] at h;exact h
 have HPL:=zH hpl;have HPK:=zH (pack_still 1 0 1 0 rfl rfl (by omega) (by omega) w5.drew);have HST:=zH (store_any q1.drew (σ.place (σ.made+1)) (pack 1 0) (by rw[q1.nw];have:=q1.sl;have:=congrArg (fun x=>x) p4;unfold St.place at p4 ⊢;omega) (by omega));have H5:=zH (zA g5 (zA F5 (zA M5 q1)));clear hL hs hn hcn hmd htm hcnt htl hx g4 F4 M4 hmL hbL hle g45 F5 M5 g5 q1 q2 hpl p4 tx4 cl4 tl4 ct4;refine wp_region_still_tail 11 (by kernel_rfl) (by kernel_rfl) ?_;simp only[zta,ztb,ztc,ztd]
 repeat still_step
 still_call HPL.out
 still_call HPK.out
 refine wpStill_nil ?_;change wpList _ _ _ _ _ w5.drew;have HG6:Hid (Grow A.L w5 A.L w5.drew):=Grow.drew _ _;generalize w5.drew=wd5 at*;go_wp2_with (go_at_call 62;refine HST.out.mono ?_;rintro e w6 ⟨rfl,q1,q2⟩);obtain⟨g5,F5,M5,_⟩:=H5.out;obtain⟨hL,hs,hn,hcn,hmd,htm,hcnt,htl,hx⟩:=HL0.out;have ct4:=HS4.out.2.2.2.2.2;have g56:=HG6.out.trans q2;have F6:=F5.grow g56;have M6:=M5.grow g56;have g6:=g5.trans g56;have a2:=q1.eng 2 (v:=.pointer (some ⟨A.ba,0,none⟩)) rfl;have a3:=F6.cell 3 (v:=zu ((timeOf (σ.word 0):Int)+1)) rfl;have HSU:=zH (store_i q1.drew (1+s) (timeOf (σ.word 0)+1) (1+(s:Int)) ((timeOf (σ.word 0):Int)+1) (by omega) (by omega) (by rw[q1.nw];omega) (by show σ4.count+1<_;omega));have H6:=zH (zA g6 (zA F6 M6));have HV5:Hid (∀ w7,Rep A ((σ4.put (σ.place (σ.made+1)) (pack 1 0)).put (1+s) (timeOf (σ.word 0)+1)) w7→w7.cell? ⟨A.be,5+s,none⟩=some (.pointer none)∧w7.frozen? ⟨A.be,5+s,none⟩=false):=by
  intro w7 r;have h:=r.eng (5+s) (engCs_txn A _ hs);rw[show A.tp ((σ4.put (σ.place (σ.made+1)) (pack 1 0)).put (1+s) (timeOf (σ.word 0)+1)) s=.pointer none by unfold Book.tp;rw[show ((σ4.put (σ.place (σ.made+1)) (pack 1 0)).put (1+s) (timeOf (σ.word 0)+1)).txns.getD s none=none by show σ4.txns.getD s none=none;rw[HS4.out.2.2.1];exact hn]] at h;exact⟨h,r.engF _⟩
 clear hL hs hn hcn hmd htm hcnt htl hx g5 F5 M5 g56 F6 M6 g6 q1 q2 ct4;refine wp_region_still_tail 10 (by kernel_rfl) (by kernel_rfl) ?_;simp only[zta,ztb,ztc,ztd]
 repeat still_step
 refine wpStill_nil ?_;change wpList _ _ _ _ _ w6.drew;have HG7:Hid (Grow A.L w6 A.L w6.drew):=Grow.drew _ _;generalize w6.drew=wd6 at*;go_wp2_with (go_at_call 62;refine HSU.out.mono ?_;rintro e w7 ⟨rfl,q1,q2⟩;obtain⟨m5,z5⟩:=HV5.out w7 q1;have H7:=zH (zA q1 q2);clear q1 q2);obtain⟨g6,F6,M6⟩:=H6.out;obtain⟨q1,q2⟩:=H7.out;obtain⟨_,_,_,hmL,hbL,hle⟩:=H4.out;obtain⟨hL,hs,hn,hcn,hmd,htm,hcnt,htl,hx⟩:=HL0.out;obtain⟨-,p4,tx4,cl4,tl4,ct4⟩:=HS4.out;have g67:=HG7.out.trans q2;have F7:=F6.grow g67;have M7:=M6.grow g67;have g7:=g6.trans g67;have hn6:((σ4.put (σ.place (σ.made+1)) (pack 1 0)).put (1+s) (timeOf (σ.word 0)+1)).txns.getD s none=none:=by show σ4.txns.getD s none=none;rw[tx4];exact hn
 have hblk:w7.heap[w1.heap.size+1]? =some (.cells (txnCs (A.newTxn s (w1.heap.size+1) w1.heap.size) s (txnOf (σ.made+1) level (timeOf (σ.word 0)+1))).toArray 120):=by
  rw[show (txnCs (A.newTxn s (w1.heap.size+1) w1.heap.size) s (txnOf (σ.made+1) level (timeOf (σ.word 0)+1))).toArray=#[zi ((σ.made:Int)+1),zi (level:Int),zi (s:Int),zu ((timeOf (σ.word 0):Int)+1),zu 0,zi 0,.slice none 0 0,.map (some w1.heap.size),.slice none 0 0,.slice none 0 0,.int .u32 0,.int .i32 0,.int .u32 0,.bool false] by simp[txnCs,Book.newTxn,upF,onceCs,txnOf]];exact F7.2
 obtain⟨rA,gA⟩:=q1.adoptTxn g7 F7.1 M7.1 hs (by omega) hle (by omega) (txnOf (σ.made+1) level (timeOf (σ.word 0)+1)) rfl rfl rfl rfl hblk M7.2 hn6;obtain⟨A8,hA8⟩:∃ A8:Book,A8=A.newTxn s (w1.heap.size+1) w1.heap.size:=⟨_,rfl⟩
 rw[←hA8] at rA gA;have e8:A8.be=A.be:=by rw[hA8];rfl
 have e8t:A8.bt s=w1.heap.size+1:=by rw[hA8];exact if_pos rfl
 have ht8:(((σ4.put (σ.place (σ.made+1)) (pack 1 0)).put (1+s) (timeOf (σ.word 0)+1)).setT s (txnOf (σ.made+1) level (timeOf (σ.word 0)+1))).txns.getD s none=some (txnOf (σ.made+1) level (timeOf (σ.word 0)+1)):=by rw[getT_set (by show s<σ4.txns.length;rw[tx4,hL.rep.n8];exact hs),if_pos rfl]
 generalize hw8:World.setCell w7 _ _=w8 at*;have c0:=rA.txn ht8 0 (v:=zi ((σ.made:Int)+1)) rfl;have c3:=rA.txn ht8 3 (v:=zu ((timeOf (σ.word 0):Int)+1)) rfl;rw[e8t] at c0 c3;have hev:=event_any rA.drew s {kind:=1,t:=σ.made+1,n:=timeOf (σ.word 0)+1,op:=⟨0,0,0,level⟩} 1 ((σ.made:Int)+1) ((timeOf (σ.word 0):Int)+1) 0 0 0 level 0 0 0 0 none 0 0 rfl (PRow.nil _ _) (by show σ4.tale.length<_;rw[tl4];exact htl);rw[e8] at hev;have HE:=zH hev;have H8:Hid (∀ A9 w9,Rep A9 ((((σ4.put (σ.place (σ.made+1)) (pack 1 0)).put (1+s) (timeOf (σ.word 0)+1)).setT s (txnOf (σ.made+1) level (timeOf (σ.word 0)+1))).event {kind:=1,t:=σ.made+1,n:=timeOf (σ.word 0)+1,op:=⟨0,0,0,level⟩}) w9→Stay A8 A9 s→w9.cell? ⟨w1.heap.size+1,0,none⟩=some (zi ((σ.made:Int)+1))):=by
  intro A9 w9 r st;have h:=r.txn (show ((((σ4.put (σ.place (σ.made+1)) (pack 1 0)).put (1+s) (timeOf (σ.word 0)+1)).setT s (txnOf (σ.made+1) level (timeOf (σ.word 0)+1))).event {kind:=1,t:=σ.made+1,n:=timeOf (σ.word 0)+1,op:=⟨0,0,0,level⟩}).txns.getD s none=some (txnOf (σ.made+1) level (timeOf (σ.word 0)+1)) from ht8) 0 (v:=zi ((σ.made:Int)+1)) rfl;rw[st.bt,e8t] at h;exact h
 have HAA:=zH (zA hA8 (zA gA (zA cl4 ht8)));clear hL hs hn hcn hmd htm hcnt htl hx g6 F6 M6 g67 F7 M7 g7 q1 q2 hmL hbL hle p4 tx4 cl4 tl4 ct4 hn6 hblk rA gA hA8 e8 e8t ht8 hw8 hev m5 z5;refine wp_region_still_tail 12 (by kernel_rfl) (by kernel_rfl) ?_;simp only[zta,ztb,ztc,ztd]
 repeat still_step
 refine wpStill_nil ?_;change wpList _ _ _ _ _ w8.drew;have HG9:Hid (∀ L,Grow L w8 L w8.drew):=fun L=>Grow.drew _ _
 generalize w8.drew=wd8 at*;go_wp2_with (go_at_call 65;refine HE.out.mono ?_;rintro e w9 ⟨rfl,A9,p1,p2,p3,p4,p5⟩;have t0:=H8.out A9 w9 p1 p3;have HP:=zH (zA p1 (zA p2 p3));clear p1 p2 p3 p4 p5)
 go_ret2
 obtain⟨p1,p2,p3⟩:=HP.out;obtain⟨hA8,gA,cl4,ht8⟩:=HAA.out;obtain⟨hL,hs,hn,hcn,_⟩:=HL0.out;have gg:=(gA.trans (HG9.out _)).trans p2;have hcl:∀ q,((((σ4.put (σ.place (σ.made+1)) (pack 1 0)).put (1+s) (timeOf (σ.word 0)+1)).setT s (txnOf (σ.made+1) level (timeOf (σ.word 0)+1))).event {kind:=1,t:=σ.made+1,n:=timeOf (σ.word 0)+1,op:=⟨0,0,0,level⟩}).calls.getD q none=σ.calls.getD q none:=fun q=>by show σ4.calls.getD q none=_;rw[cl4]
 rw[HS4.out.1.symm] at p1 ⊢;refine⟨A9,rfl,Live.of (s:=s) hL (sw_cas ({σ.tick with made:=σ.made+1}:St) 0 (σ.word 0) (clockW (timeOf (σ.word 0)+1) 0)) p1 gg ⟨p3.bf.trans (by rw[hA8];rfl),p3.mp.trans (by rw[hA8];rfl),p3.mt.trans (by rw[hA8];funext k;show (if k=s then 0 else A.mt k)=A.mt k;by_cases hk:k=s;rw[if_pos hk,hL.mt k];rw[if_neg hk]),fun q hq=>by rw[p3.bt,hA8];exact if_neg hq,fun q _=>by rw[p3.bc,hA8];rfl,fun q hq=>(p3.bx q hq).trans (by rw[hA8];rfl),fun q hq=>(p3.vpairs q hq).trans (by rw[hA8];rfl),fun q _=>by rw[p3.vnext,hA8];rfl,fun q _=>by rw[p3.vcall,hA8];rfl⟩ (fun q hq=>?_) (fun c' hcc=>?_) (fun _=>?_),gg,p3.be.trans (by rw[hA8];rfl)⟩
 · rw[HS4.out.1];exact hcl q
 · rw[HS4.out.1,hcl s,hcn] at hcc;cases hcc
 · rw[p3.vcall,hA8];exact hL.idle s hs hcn
theorem begin_help (hL:Live A σ w) (s:Nat) (hs:s<8) (level:Nat) (hl1:1≤level) (hl2:level≤3) (hn:σ.txns.getD s none=none) (hcn:σ.calls.getD s none=none) (hmd:σ.made<2000) (hx:σ.word 0<18446744073709551616) (htm:timeOf (σ.word 0)<281474976710000) (hlim:timeOf (σ.word 0)<σ.limit) (hlo:0<lastOf (σ.word 0)∧lastOf (σ.word 0)≤2000) (hcnt:σ.count<3000000000000000000) (htl:σ.tale.length<1000000):
 Calls Tryz.prog 34 #[.pointer (some ⟨A.be,0,none⟩),zi (s:Int),zi (level:Int)] w (Begun A w (((((({(σ.tick.help (σ.word 0)) with made:=σ.made+1}:St).cas 0 (σ.word 0) (clockW (timeOf (σ.word 0)+1) 0)).put (σ.place (σ.made+1)) (pack 1 0)).put (1+s) (timeOf (σ.word 0)+1)).setT s (txnOf (σ.made+1) level (timeOf (σ.word 0)+1))).event {kind:=1,t:=σ.made+1,n:=timeOf (σ.word 0)+1,op:=⟨0,0,0,level⟩}) (σ.made+1)):=by
 have hR:=hL.rep;generalize hσ4:({(σ.tick.help (σ.word 0)) with made:=σ.made+1}:St).cas 0 (σ.word 0) (clockW (timeOf (σ.word 0)+1) 0)=σ4;have HS4:Hid (({(σ.tick.help (σ.word 0)) with made:=σ.made+1}:St).cas 0 (σ.word 0) (clockW (timeOf (σ.word 0)+1) 0)=σ4∧σ4.place (σ.made+1)=σ.place (σ.made+1)∧σ4.txns=σ.txns∧σ4.calls=σ.calls∧σ4.tale=σ.tale∧σ4.count<3000000000000000010):=by
  refine⟨hσ4,?_,?_,?_,?_,?_⟩<;>rw[←hσ4]
  · rw[cas_place];exact help_place σ.tick (σ.word 0) (σ.made+1)
  · rw[cas_txns];exact help_txns σ.tick (σ.word 0)
  · rw[cas_calls];exact help_calls σ.tick (σ.word 0)
  · rw[cas_tale];exact help_tale σ.tick (σ.word 0)
  · rw[cas_count];show (σ.tick.help (σ.word 0)).count+1<_;rw[help_count];show σ.count+1+1+1<_;omega
 clear hσ4;have b1:(s:Int)<8:=by omega
 have b0:(0:Int)≤(s:Int):=by omega
 have hsok:=zH (sessionOk s hs);have hlev:=zH (levelOk level hl1 hl2);have e2:=hR.z2;have v5:=hR.eng (5+s) (engCs_txn A σ hs);rw[show A.tp σ s=.pointer none by unfold Book.tp;rw[hn]] at v5;have v21:w.cell? ⟨A.be,21,none⟩=some (zi (σ.made:Int)):=hR.eng 21 rfl;have d1:decide ((2000:Int)≤(σ.made:Int))=false:=by simp;omega
 have d2:((2000:Int)≤(σ.made:Int))=False:=by simp;omega
 have d3:(2000≤σ.made)=False:=by simp;omega
 have l1:decide ((σ.limit:Int)≤(timeOf (σ.word 0):Int))=false:=by simp;omega
 have l2:((σ.limit:Int)≤(timeOf (σ.word 0):Int))=False:=by simp;omega
 have l3:(σ.limit≤timeOf (σ.word 0))=False:=by simp;omega
 have k1:decide ((0:Int)<(lastOf (σ.word 0):Int))=true:=by simp;omega
 have k2:((0:Int)<(lastOf (σ.word 0):Int))=True:=by simp;omega
 have k3:(0<lastOf (σ.word 0))=True:=by simp;omega
 have n1:IntKind.i64.wrap ((σ.made:Int)+1)=(σ.made:Int)+1:=by rw[IntKind.wrap_i64];omega
 have n2:IntKind.u64.wrap ((timeOf (σ.word 0):Int)+1)=(timeOf (σ.word 0):Int)+1:=by rw[IntKind.wrap_u64];omega
 have n3:IntKind.i64.wrap (1+(s:Int))=1+(s:Int):=by rw[IntKind.wrap_i64];omega
 have HLo:=zH (load_i hR 0 0 rfl (by rw[hR.nw];omega) (by omega));have HDr:=zH (fun w'=>drawn_any (σ.word 0) hx w');have H1:Hid (∀ w1,Rep A σ.tick w1→Grow A.L w A.L w1→w1.cell? ⟨A.be,1,none⟩=some (zu (σ.limit:Int))∧w1.cell? ⟨A.be,21,none⟩=some (zi (σ.made:Int))∧w1.frozen? ⟨A.be,21,none⟩=false∧Calls Tryz.prog 59 #[.pointer (some ⟨A.be,0,none⟩),zu (σ.word 0:Int)] w1 (Did A w1 (σ.tick.help (σ.word 0)) (.tuple #[]))):=
  fun w1 r g=>⟨r.eng 1 rfl,r.eng 21 rfl,r.engF 21,help_any r (σ.word 0) hx hlo.2 (by show σ.count+1<_;omega)⟩
 have H2 : Hid (∀ w1 w2, Rep A (σ.tick.help (σ.word 0)) w2 → Grow A.L w1 A.L w2 → w2.cell? ⟨A.be, 21, none⟩ = some (zi (σ.made : Int)) ∧ w2.frozen? ⟨A.be, 21, none⟩ = false) := fun w1 w2 r g => ⟨by
     have h:=r.eng 21 (v:=zi ((σ.tick.help (σ.word 0)).made:Int)) rfl
     rw[show (σ.tick.help (σ.word 0)).made=σ.made by unfold St.help St.cas;split<;>rfl] at h
     exact h,r.engF 21⟩
 have hmm:∀ w,(Instr.makeMap 105 none).run Tryz.prog w=.ok (.map (some w.heap.size)) (w.alloc (.map #[] 0)):=fun w=>rfl
 have HL0:=zH (zA hL (zA hs (zA hn (zA hcn (zA hmd (zA htm (zA hcnt (zA htl hx))))))));clear hL hs hl1 hl2 hn hcn hmd hx htm hlim hlo hcnt htl;clear hR;go_enter Tryz.func34,Tryz.ntmps34;go_wp2_with (first|(go_at_call 36;refine (hsok.out _).mono ?_;rintro e w' ⟨rfl,rfl⟩)|(go_at_call 57;refine (hlev.out _).mono ?_;rintro e w' ⟨rfl,rfl⟩)|(go_at_call 58;refine HLo.out.mono ?_;rintro e w1 ⟨rfl,q1,q2⟩;obtain⟨y1,y2,y3,hhelp⟩:=H1.out w1 q1 q2;have HH:=zH hhelp;clear hhelp;have HQ1:=zH (zA q1 q2);clear q1 q2)|(go_at_call 54;refine (HDr.out _).mono ?_;rintro e w' ⟨rfl,rfl⟩)|(go_at_call 59;refine HH.out.mono ?_;rintro e w2 ⟨rfl,q1,q2⟩;obtain⟨y4,y5⟩:=H2.out w1 w2 q1 q2;have HQ2:=zH (zA q1 q2);clear q1 q2));obtain⟨hL,hs,hn,hcn,hmd,htm,hcnt,htl,hx⟩:=HL0.out;obtain⟨r1,g12⟩:=HQ2.out;have g1:=HQ1.out.2.trans g12;clear g12;obtain⟨rm,gm⟩:=r1.madeSet (σ.made+1);rw[show ((σ.made+1:Nat):Int)=(σ.made:Int)+1 from rfl] at rm gm;have hz3:(w2.setCell ⟨A.be,21,none⟩ (zi ((σ.made:Int)+1))).heap.size=w2.heap.size:=by simp[World.setCell]
 generalize hw3:w2.setCell ⟨A.be,21,none⟩ (zi ((σ.made:Int)+1))=w3 at*;generalize hw4:(w3.alloc (.map #[] 0)).alloc _=w4;have r4:Rep A ({(σ.tick.help (σ.word 0)) with made:=σ.made+1}:St) w4:=by rw[←hw4];exact (rm.alloc _).alloc _
 have g34:Grow A.L w3 A.L w4:=by rw[←hw4];exact (Grow.alloc _ _ _).trans (Grow.alloc _ _ _)
 have g4:Grow A.L w A.L w4:=(g1.trans gm).trans g34;have hm4:w4.heap[w2.heap.size]? =some (.map #[] 0):=by rw[←hw4,←hz3];exact (Below.heap_alloc _ _ _ (by simp)).trans (heap_alloc_new w3 _)
 have hb4:w4.heap[w2.heap.size+1]? =some (.cells #[zi ((σ.made:Int)+1),zi (level:Int),zi (s:Int),zu ((timeOf (σ.word 0):Int)+1),zu 0,zi 0,.slice none 0 0,.map (some w2.heap.size),.slice none 0 0,.slice none 0 0,.int .u32 0,.int .i32 0,.int .u32 0,.bool false] 120):=by rw[←hw4,←hz3];exact heap_alloc2_new w3 _ _
 have hmL:A.L w2.heap.size=none:=by rw[←hz3];exact rm.mem.fresh _ (Nat.le_refl _)
 have hbL:A.L (w2.heap.size+1)=none:=by rw[←hz3];exact rm.mem.fresh _ (by omega)
 have hle:w.heap.size≤w2.heap.size:=g1.size;have F4:Fix A.L w4 (w2.heap.size+1) (.cells #[zi ((σ.made:Int)+1),zi (level:Int),zi (s:Int),zu ((timeOf (σ.word 0):Int)+1),zu 0,zi 0,.slice none 0 0,.map (some w2.heap.size),.slice none 0 0,.slice none 0 0,.int .u32 0,.int .i32 0,.int .u32 0,.bool false] 120):=⟨hbL,hb4⟩
 have M4:Fix A.L w4 w2.heap.size (.map #[] 0):=⟨hmL,hm4⟩
 have a2:=r4.eng 2 (v:=.pointer (some ⟨A.ba,0,none⟩)) rfl;have a3:=F4.cell 3 (v:=zu ((timeOf (σ.word 0):Int)+1)) rfl;have hk:Calls Tryz.prog 61 #[zu ((timeOf (σ.word 0):Int)+1),zi 0] w4.drew fun e w'=>e=.returned (zu ((clockW (timeOf (σ.word 0)+1) 0:Nat):Int))∧w'=w4.drew:=flip (clock_any (timeOf (σ.word 0)+1) 0 (by omega) (by omega) w4.drew)
 have HC:=zH hk;have HCA:=zH (cas_i r4.drew 0 (σ.word 0) (clockW (timeOf (σ.word 0)+1) 0) 0 rfl (by rw[r4.nw];omega) (by show (σ.tick.help (σ.word 0)).count<_;have:=help_count σ.tick (σ.word 0);have e:σ.tick.count=σ.count+1:=rfl;omega));have H4:=zH (zA g4 (zA F4 (zA M4 (zA hmL (zA hbL hle)))));clear hL hs hn hcn hmd htm hcnt htl hx r1 g1 rm gm hz3 hw3 hw4 r4 g34 g4 hm4 hb4 hmL hbL hle F4 M4 hk;refine wp_region_still_tail 10 (by kernel_rfl) (by kernel_rfl) ?_;simp only[zta,ztb,ztc,ztd]
 repeat still_step
 still_call HC.out
 refine wpStill_nil ?_;change wpList _ _ _ _ _ w4.drew;have HG4:Hid (Grow A.L w4 A.L w4.drew):=Grow.drew _ _;generalize w4.drew=wd4 at*;go_wp2_with (go_at_call 60;refine HCA.out.mono ?_;rintro e w5 ⟨rfl,q1,q2⟩);obtain⟨g4,F4,M4,hmL,hbL,hle⟩:=H4.out;obtain⟨hL,hs,hn,hcn,hmd,htm,hcnt,htl,hx⟩:=HL0.out;rw[HS4.out.1] at q1;obtain⟨-,p4,tx4,cl4,tl4,ct4⟩:=HS4.out;have g45:=HG4.out.trans q2;have F5:=F4.grow g45;have M5:=M4.grow g45;have g5:=g4.trans g45;have a2:=q1.eng 2 (v:=.pointer (some ⟨A.ba,0,none⟩)) rfl;have a0:=F5.cell 0 (v:=zi ((σ.made:Int)+1)) rfl;have hpl:Calls Tryz.prog 63 #[.pointer (some ⟨A.be,0,none⟩),zi ((σ.made:Int)+1)] w5.drew fun e w'=>e=.returned (zi ((σ.place (σ.made+1):Nat):Int))∧w'=w5.drew:=by
  have h:=place_still q1.drew (σ.made+1) (by omega);rw[p4] at h;exact h
 have HPL:=zH hpl;have HPK:=zH (pack_still 1 0 1 0 rfl rfl (by omega) (by omega) w5.drew);have HST:=zH (store_any q1.drew (σ.place (σ.made+1)) (pack 1 0) (by rw[q1.nw];have:=q1.sl;have:=congrArg (fun x=>x) p4;unfold St.place at p4 ⊢;omega) (by omega));have H5:=zH (zA g5 (zA F5 (zA M5 q1)));clear hL hs hn hcn hmd htm hcnt htl hx g4 F4 M4 hmL hbL hle g45 F5 M5 g5 q1 q2 hpl p4 tx4 cl4 tl4 ct4;refine wp_region_still_tail 11 (by kernel_rfl) (by kernel_rfl) ?_;simp only[zta,ztb,ztc,ztd]
 repeat still_step
 still_call HPL.out
 still_call HPK.out
 refine wpStill_nil ?_;change wpList _ _ _ _ _ w5.drew;have HG6:Hid (Grow A.L w5 A.L w5.drew):=Grow.drew _ _;generalize w5.drew=wd5 at*;go_wp2_with (go_at_call 62;refine HST.out.mono ?_;rintro e w6 ⟨rfl,q1,q2⟩);obtain⟨g5,F5,M5,_⟩:=H5.out;obtain⟨hL,hs,hn,hcn,hmd,htm,hcnt,htl,hx⟩:=HL0.out;have ct4:=HS4.out.2.2.2.2.2;have g56:=HG6.out.trans q2;have F6:=F5.grow g56;have M6:=M5.grow g56;have g6:=g5.trans g56;have a2:=q1.eng 2 (v:=.pointer (some ⟨A.ba,0,none⟩)) rfl;have a3:=F6.cell 3 (v:=zu ((timeOf (σ.word 0):Int)+1)) rfl;have HSU:=zH (store_i q1.drew (1+s) (timeOf (σ.word 0)+1) (1+(s:Int)) ((timeOf (σ.word 0):Int)+1) (by omega) (by omega) (by rw[q1.nw];omega) (by show σ4.count+1<_;omega));have H6:=zH (zA g6 (zA F6 M6));have HV5:Hid (∀ w7,Rep A ((σ4.put (σ.place (σ.made+1)) (pack 1 0)).put (1+s) (timeOf (σ.word 0)+1)) w7→w7.cell? ⟨A.be,5+s,none⟩=some (.pointer none)∧w7.frozen? ⟨A.be,5+s,none⟩=false):=by
  intro w7 r;have h:=r.eng (5+s) (engCs_txn A _ hs);rw[show A.tp ((σ4.put (σ.place (σ.made+1)) (pack 1 0)).put (1+s) (timeOf (σ.word 0)+1)) s=.pointer none by unfold Book.tp;rw[show ((σ4.put (σ.place (σ.made+1)) (pack 1 0)).put (1+s) (timeOf (σ.word 0)+1)).txns.getD s none=none by show σ4.txns.getD s none=none;rw[HS4.out.2.2.1];exact hn]] at h;exact⟨h,r.engF _⟩
 clear hL hs hn hcn hmd htm hcnt htl hx g5 F5 M5 g56 F6 M6 g6 q1 q2 ct4;refine wp_region_still_tail 10 (by kernel_rfl) (by kernel_rfl) ?_;simp only[zta,ztb,ztc,ztd]
 repeat still_step
 refine wpStill_nil ?_;change wpList _ _ _ _ _ w6.drew;have HG7:Hid (Grow A.L w6 A.L w6.drew):=Grow.drew _ _;generalize w6.drew=wd6 at*;go_wp2_with (go_at_call 62;refine HSU.out.mono ?_;rintro e w7 ⟨rfl,q1,q2⟩;obtain⟨m5,z5⟩:=HV5.out w7 q1;have H7:=zH (zA q1 q2);clear q1 q2);obtain⟨g6,F6,M6⟩:=H6.out;obtain⟨q1,q2⟩:=H7.out;obtain⟨_,_,_,hmL,hbL,hle⟩:=H4.out;obtain⟨hL,hs,hn,hcn,hmd,htm,hcnt,htl,hx⟩:=HL0.out;obtain⟨-,p4,tx4,cl4,tl4,ct4⟩:=HS4.out;have g67:=HG7.out.trans q2;have F7:=F6.grow g67;have M7:=M6.grow g67;have g7:=g6.trans g67;have hn6:((σ4.put (σ.place (σ.made+1)) (pack 1 0)).put (1+s) (timeOf (σ.word 0)+1)).txns.getD s none=none:=by show σ4.txns.getD s none=none;rw[tx4];exact hn
 have hblk:w7.heap[w2.heap.size+1]? =some (.cells (txnCs (A.newTxn s (w2.heap.size+1) w2.heap.size) s (txnOf (σ.made+1) level (timeOf (σ.word 0)+1))).toArray 120):=by
  rw[show (txnCs (A.newTxn s (w2.heap.size+1) w2.heap.size) s (txnOf (σ.made+1) level (timeOf (σ.word 0)+1))).toArray=#[zi ((σ.made:Int)+1),zi (level:Int),zi (s:Int),zu ((timeOf (σ.word 0):Int)+1),zu 0,zi 0,.slice none 0 0,.map (some w2.heap.size),.slice none 0 0,.slice none 0 0,.int .u32 0,.int .i32 0,.int .u32 0,.bool false] by simp[txnCs,Book.newTxn,upF,onceCs,txnOf]];exact F7.2
 obtain⟨rA,gA⟩:=q1.adoptTxn g7 F7.1 M7.1 hs (by omega) hle (by omega) (txnOf (σ.made+1) level (timeOf (σ.word 0)+1)) rfl rfl rfl rfl hblk M7.2 hn6;obtain⟨A8,hA8⟩:∃ A8:Book,A8=A.newTxn s (w2.heap.size+1) w2.heap.size:=⟨_,rfl⟩
 rw[←hA8] at rA gA;have e8:A8.be=A.be:=by rw[hA8];rfl
 have e8t:A8.bt s=w2.heap.size+1:=by rw[hA8];exact if_pos rfl
 have ht8:(((σ4.put (σ.place (σ.made+1)) (pack 1 0)).put (1+s) (timeOf (σ.word 0)+1)).setT s (txnOf (σ.made+1) level (timeOf (σ.word 0)+1))).txns.getD s none=some (txnOf (σ.made+1) level (timeOf (σ.word 0)+1)):=by rw[getT_set (by show s<σ4.txns.length;rw[tx4,hL.rep.n8];exact hs),if_pos rfl]
 generalize hw8:World.setCell w7 _ _=w8 at*;have c0:=rA.txn ht8 0 (v:=zi ((σ.made:Int)+1)) rfl;have c3:=rA.txn ht8 3 (v:=zu ((timeOf (σ.word 0):Int)+1)) rfl;rw[e8t] at c0 c3;have hev:=event_any rA.drew s {kind:=1,t:=σ.made+1,n:=timeOf (σ.word 0)+1,op:=⟨0,0,0,level⟩} 1 ((σ.made:Int)+1) ((timeOf (σ.word 0):Int)+1) 0 0 0 level 0 0 0 0 none 0 0 rfl (PRow.nil _ _) (by show σ4.tale.length<_;rw[tl4];exact htl);rw[e8] at hev;have HE:=zH hev;have H8:Hid (∀ A9 w9,Rep A9 ((((σ4.put (σ.place (σ.made+1)) (pack 1 0)).put (1+s) (timeOf (σ.word 0)+1)).setT s (txnOf (σ.made+1) level (timeOf (σ.word 0)+1))).event {kind:=1,t:=σ.made+1,n:=timeOf (σ.word 0)+1,op:=⟨0,0,0,level⟩}) w9→Stay A8 A9 s→w9.cell? ⟨w2.heap.size+1,0,none⟩=some (zi ((σ.made:Int)+1))):=by
  intro A9 w9 r st;have h:=r.txn (show ((((σ4.put (σ.place (σ.made+1)) (pack 1 0)).put (1+s) (timeOf (σ.word 0)+1)).setT s (txnOf (σ.made+1) level (timeOf (σ.word 0)+1))).event {kind:=1,t:=σ.made+1,n:=timeOf (σ.word 0)+1,op:=⟨0,0,0,level⟩}).txns.getD s none=some (txnOf (σ.made+1) level (timeOf (σ.word 0)+1)) from ht8) 0 (v:=zi ((σ.made:Int)+1)) rfl;rw[st.bt,e8t] at h;exact h
 have HAA:=zH (zA hA8 (zA gA (zA cl4 ht8)));clear hL hs hn hcn hmd htm hcnt htl hx g6 F6 M6 g67 F7 M7 g7 q1 q2 hmL hbL hle p4 tx4 cl4 tl4 ct4 hn6 hblk rA gA hA8 e8 e8t ht8 hw8 hev m5 z5;refine wp_region_still_tail 12 (by kernel_rfl) (by kernel_rfl) ?_;simp only[zta,ztb,ztc,ztd]
 repeat still_step
 refine wpStill_nil ?_;change wpList _ _ _ _ _ w8.drew;have HG9:Hid (∀ L,Grow L w8 L w8.drew):=fun L=>Grow.drew _ _
 generalize w8.drew=wd8 at*;go_wp2_with (go_at_call 65;refine HE.out.mono ?_;rintro e w9 ⟨rfl,A9,p1,p2,p3,p4,p5⟩;have t0:=H8.out A9 w9 p1 p3;have HP:=zH (zA p1 (zA p2 p3));clear p1 p2 p3 p4 p5)
 go_ret2
 obtain⟨p1,p2,p3⟩:=HP.out;obtain⟨hA8,gA,cl4,ht8⟩:=HAA.out;obtain⟨hL,hs,hn,hcn,_⟩:=HL0.out;have gg:=(gA.trans (HG9.out _)).trans p2;have hcl:∀ q,((((σ4.put (σ.place (σ.made+1)) (pack 1 0)).put (1+s) (timeOf (σ.word 0)+1)).setT s (txnOf (σ.made+1) level (timeOf (σ.word 0)+1))).event {kind:=1,t:=σ.made+1,n:=timeOf (σ.word 0)+1,op:=⟨0,0,0,level⟩}).calls.getD q none=σ.calls.getD q none:=fun q=>by show σ4.calls.getD q none=_;rw[cl4]
 rw[HS4.out.1.symm] at p1 ⊢;refine⟨A9,rfl,Live.of (s:=s) hL ⟨(sw_cas ({σ.tick.help (σ.word 0) with made:=σ.made+1}:St) 0 (σ.word 0) (clockW (timeOf (σ.word 0)+1) 0)).1.trans (sw_help σ.tick (σ.word 0)).1,(sw_cas ({σ.tick.help (σ.word 0) with made:=σ.made+1}:St) 0 (σ.word 0) (clockW (timeOf (σ.word 0)+1) 0)).2.trans (sw_help σ.tick (σ.word 0)).2⟩ p1 gg ⟨p3.bf.trans (by rw[hA8];rfl),p3.mp.trans (by rw[hA8];rfl),p3.mt.trans (by rw[hA8];funext k;show (if k=s then 0 else A.mt k)=A.mt k;by_cases hk:k=s;rw[if_pos hk,hL.mt k];rw[if_neg hk]),fun q hq=>by rw[p3.bt,hA8];exact if_neg hq,fun q _=>by rw[p3.bc,hA8];rfl,fun q hq=>(p3.bx q hq).trans (by rw[hA8];rfl),fun q hq=>(p3.vpairs q hq).trans (by rw[hA8];rfl),fun q _=>by rw[p3.vnext,hA8];rfl,fun q _=>by rw[p3.vcall,hA8];rfl⟩ (fun q hq=>?_) (fun c' hcc=>?_) (fun _=>?_),gg,p3.be.trans (by rw[hA8];rfl)⟩
 · rw[HS4.out.1];exact hcl q
 · rw[HS4.out.1,hcl s,hcn] at hcc;cases hcc
 · rw[p3.vcall,hA8];exact hL.idle s hs hcn
theorem toList_madeCells_two (a b:Value) (n:Nat):(madeCells #[a,b] (n*2)).toList=two (List.replicate n (a,b)):=by
 apply List.ext_getElem?
 intro i;have e1:(madeCells #[a,b] (n*2)).toList[i]? =if i<n*2 then some (#[a,b][i % 2]!) else none:=by
  by_cases h:i<n*2
  · rw[if_pos h];simp[madeCells,h]
  · rw[if_neg h,List.getElem?_eq_none_iff];simp[madeCells];omega
 rw[e1]
 by_cases h:i<n*2
 · rw[if_pos h]
   have hr:(List.replicate n (a,b))[i / 2]? =some (a,b):=by rw[List.getElem?_replicate,if_pos (by omega)]
   obtain⟨h0,h1⟩:=two_get (List.replicate n (a,b)) (i / 2) hr
   rcases Nat.mod_two_eq_zero_or_one i with hm|hm
   · rw[show 2*(i / 2)=i by omega] at h0
     rw[h0,hm];rfl
   · rw[show 2*(i / 2)+1=i by omega] at h1
     rw[h1,hm];rfl
 · rw[if_neg h]
   symm
   rw[List.getElem?_eq_none_iff,two_length];simp;omega
theorem infoU:(Tryz.prog.info? 185).map (fun i=>(i.zero,i.size,i.bytes))=some (some (.agg #[zu 0]),1,8):=by kernel_rfl
theorem infoV:(Tryz.prog.info? 166).map (fun i=>(i.zero,i.size,i.bytes))=some (some (.agg #[zi 0,zi 0]),2,16):=by kernel_rfl
theorem infoG:(Tryz.prog.info? 233).map (fun i=>(i.zero,i.size,i.bytes))=some (some (.agg #[zi 0,.bool false]),2,16):=by kernel_rfl
theorem make_words (n:Nat) (h:n≤100000) (w:World):(Instr.makeSlice 170 (zi (n:Int)) (zi (n:Int))).run Tryz.prog w=.ok (.slice (some ⟨w.heap.size,0,none⟩) n n) (w.alloc (.cells (madeCells #[zu 0] n) 185)):=by
 obtain⟨i,hi,hz0,hz1,hz2⟩:=info_parts infoU;have:=run_make (P:=Tryz.prog) w 170 185 i _ Tryz.underlying170 hi hz0 .i64 .i64 n n (by omega) (Int.le_refl _) (by rw[hz2];omega) (by omega);rw[hz1] at this
 simpa [Value.cells] using this
theorem make_tags (n:Nat) (h:n≤100000) (w:World):(Instr.makeSlice 176 (zi (n:Int)) (zi (n:Int))).run Tryz.prog w=.ok (.slice (some ⟨w.heap.size,0,none⟩) n n) (w.alloc (.cells (madeCells #[zi 0,.bool false] (n*2)) 233)):=by
 obtain⟨i,hi,hz0,hz1,hz2⟩:=info_parts infoG;have:=run_make (P:=Tryz.prog) w 176 233 i _ Tryz.underlying176 hi hz0 .i64 .i64 n n (by omega) (Int.le_refl _) (by rw[hz2];omega) (by omega);rw[hz1] at this
 simpa [Value.cells] using this
theorem make_values (n:Nat) (h:n≤100000) (w:World):(Instr.makeSlice 96 (zi (n:Int)) (zi (n:Int))).run Tryz.prog w=.ok (.slice (some ⟨w.heap.size,0,none⟩) n n) (w.alloc (.cells (madeCells #[zi 0,zi 0] (n*2)) 166)):=by
 obtain⟨i,hi,hz0,hz1,hz2⟩:=info_parts infoV;have:=run_make (P:=Tryz.prog) w 96 166 i _ Tryz.underlying96 hi hz0 .i64 .i64 n n (by omega) (Int.le_refl _) (by rw[hz2];omega) (by omega);rw[hz1] at this
 simpa [Value.cells] using this
theorem arenaNew (n:Nat) (h1:1≤n) (h2:n≤100000) (w:World):Calls Tryz.prog 44 #[zi (n:Int)] w fun e w'=>e=.returned (.tuple #[.pointer (some ⟨w.heap.size+1,0,none⟩),zi 0])∧w'=(w.alloc (.cells (madeCells #[zu 0] n) 185)).alloc (.cells #[.slice (some ⟨w.heap.size,0,none⟩) n n,zi 0] 175):=by
 have hm:=fun w=>make_words n h2 w
 have d1:decide ((n:Int)<1)=false:=by simp;omega
 have d2:((n:Int)<1)=False:=by simp;omega
 have d3:decide ((100000:Int)<(n:Int))=false:=by simp;omega
 have d4:((100000:Int)<(n:Int))=False:=by simp;omega
 have d5:(n<1)=False:=by simp;omega
 have d6:(100000<n)=False:=by simp;omega
 have d7:(n=0)=False:=by simp;omega
 clear h1 h2;go_enter Tryz.func44,Tryz.ntmps44;go_wp2
 go_ret2
 exact⟨rfl,rfl⟩
theorem poolNew (n:Nat) (h1:1≤n) (h2:n≤4096) (w:World):Calls Tryz.prog 45 #[zi (n:Int),zi 65535] w fun e w'=>e=.returned (.tuple #[.pointer (some ⟨w.heap.size+1,0,none⟩),zi 0])∧w'=(w.alloc (.cells (madeCells #[zi 0,.bool false] (n*2)) 233)).alloc (.cells #[.slice (some ⟨w.heap.size,0,none⟩) n n,zi 65535,.slice none 0 0,zi 0,.int .u32 0,.int .i32 0,.int .u32 0] 178):=by
 have hm:=fun w=>make_tags n (by omega) w
 have d1:decide ((n:Int)<1)=false:=by simp;omega
 have d2:((n:Int)<1)=False:=by simp;omega
 have d3:decide ((4096:Int)<(n:Int))=false:=by simp;omega
 have d4:((4096:Int)<(n:Int))=False:=by simp;omega
 have d5:(n<1)=False:=by simp;omega
 have d6:(4096<n)=False:=by simp;omega
 have d7:(n=0)=False:=by simp;omega
 clear h1 h2;go_enter Tryz.func45,Tryz.ntmps45;go_wp2
 go_ret2
 exact⟨rfl,rfl⟩
theorem confOk (n l:Nat) (h1:1≤n) (h2:n≤256) (h3:1≤l) (h4:l≤1099511627776) (w:World):Calls Tryz.prog 43 #[.agg #[zi (n:Int),zu (l:Int)]] w fun e w'=>e=.returned (.bool true)∧Below w.heap.size w w':=by
 have hb:Below w.heap.size w (w.alloc (.cells #[zi (n:Int),zu (l:Int)] 59)):=(Below.refl _ _).alloc (Nat.le_refl _) _;have HB:=zH hb;have d1:decide ((1:Int)≤(n:Int))=true:=by simp;omega
 have d2:decide ((n:Int)≤256)=true:=by simp;omega
 have d3:decide ((1:Int)≤(l:Int))=true:=by simp;omega
 have d4:decide ((l:Int)≤1099511627776)=true:=by simp;omega
 have e1:((1:Int)≤(n:Int))=True:=by simp;omega
 have e2:((n:Int)≤256)=True:=by simp;omega
 have e3:((1:Int)≤(l:Int))=True:=by simp;omega
 have e4:((l:Int)≤1099511627776)=True:=by simp;omega
 have g1:(1≤n)=True:=by simp;omega
 have g2:(n≤256)=True:=by simp;omega
 have g3:(1≤l)=True:=by simp;omega
 have g5:(0<n)=True:=by simp;omega
 have g6:(0<l)=True:=by simp;omega
 clear h1 h2 h3 h4 hb;go_enter Tryz.func43,Tryz.ntmps43;go_wp2;go_ret;exact⟨rfl,HB.out⟩
def book0 (be ba bw bp bs bv:Nat):Book where
 L:=fun k=>if k=be then some .eng else if k=ba then some .arena else if k=bw then some .words else if k=bp then some .pool else if k=bs then some .tags else if k=bv then some .values else none
 be:=be
 ba:=ba
 bw:=bw
 bp:=bp
 bs:=bs
 bv:=bv
 bt:=fun _=>0
 bm:=fun _=>0
 bc:=fun _=>0
 bx:=fun _ _=>0
 vfree:=.slice none 0 0
 vtale:=.slice none 0 0
 vcut:=.slice none 0 0
 hcut:=false
 gcut:=0
 vsweep:=.nilFunc
 vkeys:=fun _=>.slice none 0 0
 vreads:=fun _=>.slice none 0 0
 vbonds:=fun _=>.slice none 0 0
 vpairs:=fun _=>.slice none 0 0
 vnext:=fun _=>.nilFunc
 vcall:=fun _=>.pointer none
 taleCs:=[]
 cutCs:=[]
 mp:=0
 mt:=fun _=>0
 vover:=fun _=>false
theorem getD_rep {α:Type} (n s:Nat) (d:α):(List.replicate n d).getD s d=d:=by
 rw[List.getD_eq_getElem?_getD,List.getElem?_replicate]
 split<;>rfl
theorem rep_new {w:World} {n l be ba bw bp bs bv:Nat} (hn:1≤n∧n≤256)
 (d:be≠ba∧be≠bw∧be≠bp∧be≠bs∧be≠bv∧ba≠bw∧ba≠bp∧ba≠bs∧ba≠bv∧bw≠bp∧bw≠bs∧bw≠bv∧bp≠bs∧bp≠bv∧bs≠bv)
 (h1:w.heap[be]? =some (.cells #[zi (n:Int),zu (l:Int),.pointer (some ⟨ba,0,none⟩),.pointer (some ⟨bp,0,none⟩),.slice (some ⟨bv,0,none⟩) n n,.pointer none,.pointer none,.pointer none,.pointer none,.pointer none,.pointer none,.pointer none,.pointer none,.pointer none,.pointer none,.pointer none,.pointer none,.pointer none,.pointer none,.pointer none,.pointer none,zi 0,zi 0,zi 0,.slice none 0 0,.nilFunc,zu 0,.slice none 0 0,.bool false] 104))
 (h2:w.heap[ba]? =some (.cells #[.slice (some ⟨bw,0,none⟩) (73+n*3+2000+1) (73+n*3+2000+1),zi 0] 175))
 (h3:w.heap[bw]? =some (.cells (madeCells #[zu 0] (73+n*3+2000+1)) 185))
 (h4:w.heap[bp]? =some (.cells #[.slice (some ⟨bs,0,none⟩) n n,zi 65535,.slice none 0 0,zi 0,.int .u32 0,.int .i32 0,.int .u32 0] 178))
 (h5:w.heap[bs]? =some (.cells (madeCells #[zi 0,.bool false] (n*2)) 233))
 (h6:w.heap[bv]? =some (.cells (madeCells #[zi 0,zi 0] (n*2)) 166)):Live (book0 be ba bw bp bs bv) (new n l) w:=by
 obtain⟨d1,d2,d3,d4,d5,d6,d7,d8,d9,d10,d11,d12,d13,d14,d15⟩:=d;have hto:∀ (a:Array Value) (l:List Value),a.toList=l→a=l.toArray:=fun a l h=>by rw[←h]
 have e3:=hto _ _ (toList_madeCells_one (zu 0) (73+n*3+2000+1));have e5:=hto _ _ (toList_madeCells_two (zi 0) (.bool false) n);have e6:=hto _ _ (toList_madeCells_two (zi 0) (zi 0) n);rw[e3] at h3;rw[e5] at h5;rw[e6] at h6;have htx:∀ s,(new n l).txns.getD s none=none:=fun s=>getD_rep 8 s none
 have hcl:∀ s,(new n l).calls.getD s none=none:=fun s=>getD_rep 8 s none
 have hm:Holds (book0 be ba bw bp bs bv).L w (memOf (book0 be ba bw bp bs bv) (new n l)):=by
  refine⟨fun r=>?_,fun b hb=>?_⟩
  · cases r
    case eng=>exact⟨by simp[book0],h1⟩
    case arena=>exact⟨by simp[book0,Ne.symm d1],by simpa [memOf,arenaCs,new,book0,i64] using h2⟩
    case words=>exact⟨by simp[book0,Ne.symm d2,Ne.symm d6],by simpa [memOf,new,book0,u64] using h3⟩
    case pool=>exact⟨by simp[book0,Ne.symm d3,Ne.symm d7,Ne.symm d10],by simpa [memOf,poolCs,onceCs,new,book0,i64] using h4⟩
    case tags=>exact⟨by simp[book0,Ne.symm d4,Ne.symm d8,Ne.symm d11,Ne.symm d13],by simpa [memOf,tagCs,new,book0,i64] using h5⟩
    case values=>exact⟨by simp[book0,Ne.symm d5,Ne.symm d9,Ne.symm d12,Ne.symm d14,Ne.symm d15],by simpa [memOf,valueCs,new,book0,i64] using h6⟩
    case free=>exact⟨World.ownsRow_nil _ 0 _ _,fun g hg=>by cases hg⟩
    case tale=>exact⟨World.ownsRow_nil _ 0 _ _,fun g hg=>by cases hg⟩
    case cut=>trivial
    case tmp=>trivial
    case txn s=>simp only[memOf,htx];trivial
    case map s=>simp only[memOf,htx];trivial
    case cell s key=>simp only[memOf,htx];trivial
    case keys s=>simp only[memOf,htx];trivial
    case reads s=>simp only[memOf,htx];trivial
    case bonds s=>simp only[memOf,htx];trivial
    case call s=>simp only[memOf,hcl];trivial
    case pairs s=>simp only[memOf,hcl];trivial
  · have l1:=lt_of h1
    have l2:=lt_of h2;have l3:=lt_of h3;have l4:=lt_of h4;have l5:=lt_of h5;have l6:=lt_of h6;show (if b=be then some Role.eng else _)=none;rw[if_neg (by omega),if_neg (by omega),if_neg (by omega),if_neg (by omega),if_neg (by omega),if_neg (by omega)]
 refine⟨⟨hm,rfl,hn,by simp[new],by simp[new],by simp[new],by simp[new],by simp[new]⟩,rfl,fun _=>rfl,fun s _ c hc=>absurd ((hcl s).symm.trans hc) (by simp),fun s _ _=>rfl,⟨rfl,.inl ⟨rfl,rfl,rfl⟩⟩⟩
theorem engineNew (n l:Nat) (h1:1≤n) (h2:n≤256) (h3:1≤l) (h4:l≤1099511627776) (w:World):Calls Tryz.prog 20 #[.agg #[zi (n:Int),zu (l:Int)]] w fun e w'=>∃ A,e=.returned (.tuple #[.pointer (some ⟨A.be,0,none⟩),zi 0])∧Live A (new n l) w'∧Grow (fun _=>none) w A.L w':=by
 have hco:=zH (confOk n l h1 h2 h3 h4);have han:=zH (fun w=>arenaNew (73+n*3+2000+1) (by omega) (by omega) w);have hpn:=zH (fun w=>poolNew n h1 (by omega) w);have hmv:=fun w=>make_values n (by omega) w
 have ea:((73+n*3+2000+1:Nat):Int)=73+(n:Int)*3+2000+1:=by omega
 rw[ea] at han;have n1:IntKind.i64.wrap ((n:Int)*3)=(n:Int)*3:=by rw[IntKind.wrap_i64];omega
 have n2:IntKind.i64.wrap (73+(n:Int)*3)=73+(n:Int)*3:=by rw[IntKind.wrap_i64];omega
 have n3:IntKind.i64.wrap (73+(n:Int)*3+2000)=73+(n:Int)*3+2000:=by rw[IntKind.wrap_i64];omega
 have n4:IntKind.i64.wrap (73+(n:Int)*3+2000+1)=73+(n:Int)*3+2000+1:=by rw[IntKind.wrap_i64];omega
 have HN:=zH (zA h1 h2);have x0:(w.alloc (.cells #[zi (n:Int),zu (l:Int)] 59)).cell? ⟨w.heap.size,0,none⟩=some (zi (n:Int)):=by rw[cell_of_row _ _ 0 _ _ _ (heap_alloc_new w _)];rfl
 have x1:(w.alloc (.cells #[zi (n:Int),zu (l:Int)] 59)).cell? ⟨w.heap.size,1,none⟩=some (zu (l:Int)):=by rw[cell_of_row _ _ 1 _ _ _ (heap_alloc_new w _)];rfl
 have HC:Hid (∀ w1,Below (w.alloc (.cells #[zi (n:Int),zu (l:Int)] 59)).heap.size (w.alloc (.cells #[zi (n:Int),zu (l:Int)] 59)) w1→w1.cell? ⟨w.heap.size,0,none⟩=some (zi (n:Int))∧w1.cell? ⟨w.heap.size,1,none⟩=some (zu (l:Int))∧w.heap.size<w1.heap.size):=by
  intro w1 hb;have hs:=size_alloc1 w (.cells #[zi (n:Int),zu (l:Int)] 59);have hz:=hb.size;exact⟨(hb.cell (p:=⟨w.heap.size,0,none⟩) (by rw[hs];exact Nat.lt_succ_self _)).trans x0,(hb.cell (p:=⟨w.heap.size,1,none⟩) (by rw[hs];exact Nat.lt_succ_self _)).trans x1,by omega⟩
 have HB2:Hid (∀ (w1 w2:World) (a b:Obj),w2=(w1.alloc a).alloc b→w.heap.size<w1.heap.size→w1.cell? ⟨w.heap.size,0,none⟩=some (zi (n:Int))→w1.cell? ⟨w.heap.size,1,none⟩=some (zu (l:Int))→w2.cell? ⟨w.heap.size,0,none⟩=some (zi (n:Int))∧w2.cell? ⟨w.heap.size,1,none⟩=some (zu (l:Int))∧w.heap.size<w2.heap.size):=by
  rintro w1 w2 a b rfl hl k0 k1;have hb:Below w1.heap.size w1 ((w1.alloc a).alloc b):=((Below.refl _ _).alloc (Nat.le_refl _) _).alloc (by simp) _;exact⟨(hb.cell (p:=⟨w.heap.size,0,none⟩) hl).trans k0,(hb.cell (p:=⟨w.heap.size,1,none⟩) hl).trans k1,Nat.lt_of_lt_of_le hl hb.size⟩
 clear h1 h2 h3 h4 ea;go_enter Tryz.func20,Tryz.ntmps20;go_wp2_with (first|(go_at_call 43;refine (hco.out _).mono ?_;rintro e w1 ⟨rfl,hb⟩;obtain⟨y0,y1,hsz⟩:=HC.out w1 hb;have HB:=zH (zA hb hsz);clear hb hsz)|(go_at_call 44;refine (han.out _).mono ?_;rintro e w2 ⟨rfl,hw2⟩;obtain⟨z0,z1,hl2⟩:=HB2.out w1 w2 _ _ hw2 HB.out.2 y0 y1;have H2:=zH (zA hw2 hl2);clear hw2 hl2)|(go_at_call 45;refine (hpn.out _).mono ?_;rintro e w3 ⟨rfl,hw3⟩;obtain⟨u0,u1,hl3⟩:=HB2.out w2 w3 _ _ hw3 H2.out.2 z0 z1;have H3:=zH (zA hw3 hl3);clear hw3 hl3));have v0:(w3.alloc (.cells (madeCells #[zi 0,zi 0] (n*2)) 166)).cell? ⟨w.heap.size,0,none⟩=some (zi (n:Int)):=by rw[World.cell?_alloc_past _ _ _ H3.out.2];exact u0
 have v1:(w3.alloc (.cells (madeCells #[zi 0,zi 0] (n*2)) 166)).cell? ⟨w.heap.size,1,none⟩=some (zu (l:Int)):=by rw[World.cell?_alloc_past _ _ _ H3.out.2];exact u1
 go_region
 go_wp2_with fail
 go_ret2
 obtain⟨hw2,_⟩:=H2.out;obtain⟨hw3,_⟩:=H3.out;obtain⟨hb1,hl1⟩:=HB.out;have two_old:∀ (w:World) (a b:Obj),((w.alloc a).alloc b).heap[w.heap.size]? =some a:=fun w a b=>(Below.heap_alloc _ _ _ (by simp)).trans (heap_alloc_new w a)
 have s2:w2.heap.size=w1.heap.size+2:=by rw[hw2];simp
 have s3:w3.heap.size=w2.heap.size+2:=by rw[hw3];simp
 have bel:∀ (w:World) (a b:Obj),Below w.heap.size w ((w.alloc a).alloc b):=fun w a b=>((Below.refl _ _).alloc (Nat.le_refl _) _).alloc (by simp) _
 have f2a:=two_old w1 (.cells (madeCells #[zu 0] (73+n*3+2000+1)) 185) (.cells #[.slice (some ⟨w1.heap.size,0,none⟩) (73+n*3+2000+1) (73+n*3+2000+1),zi 0] 175);have f2b:=heap_alloc2_new w1 (.cells (madeCells #[zu 0] (73+n*3+2000+1)) 185) (.cells #[.slice (some ⟨w1.heap.size,0,none⟩) (73+n*3+2000+1) (73+n*3+2000+1),zi 0] 175);rw[←hw2] at f2a f2b;have f3a:=two_old w2 (.cells (madeCells #[zi 0,.bool false] (n*2)) 233) (.cells #[.slice (some ⟨w2.heap.size,0,none⟩) n n,zi 65535,.slice none 0 0,zi 0,.int .u32 0,.int .i32 0,.int .u32 0] 178);have f3b:=heap_alloc2_new w2 (.cells (madeCells #[zi 0,.bool false] (n*2)) 233) (.cells #[.slice (some ⟨w2.heap.size,0,none⟩) n n,zi 65535,.slice none 0 0,zi 0,.int .u32 0,.int .i32 0,.int .u32 0] 178);rw[←hw3] at f3a f3b;have b12:Below w1.heap.size w1 w2:=by rw[hw2];exact bel _ _ _
 have b23:Below w2.heap.size w2 w3:=by rw[hw3];exact bel _ _ _
 have b34:=(bel w3 (.cells (madeCells #[zi 0,zi 0] (n*2)) 166) (.cells #[zi (n:Int),zu (l:Int),.pointer (some ⟨w1.heap.size+1,0,none⟩),.pointer (some ⟨w2.heap.size+1,0,none⟩),.slice (some ⟨w3.heap.size,0,none⟩) n n,.pointer none,.pointer none,.pointer none,.pointer none,.pointer none,.pointer none,.pointer none,.pointer none,.pointer none,.pointer none,.pointer none,.pointer none,.pointer none,.pointer none,.pointer none,.pointer none,zi 0,zi 0,zi 0,.slice none 0 0,.nilFunc,zu 0,.slice none 0 0,.bool false] 104)).drew;have b0w:Below w.heap.size w w1:=((Below.refl _ _).alloc (Nat.le_refl _) _).trans (hb1.mono (by simp));have f4a:=two_old w3 (.cells (madeCells #[zi 0,zi 0] (n*2)) 166) (.cells #[zi (n:Int),zu (l:Int),.pointer (some ⟨w1.heap.size+1,0,none⟩),.pointer (some ⟨w2.heap.size+1,0,none⟩),.slice (some ⟨w3.heap.size,0,none⟩) n n,.pointer none,.pointer none,.pointer none,.pointer none,.pointer none,.pointer none,.pointer none,.pointer none,.pointer none,.pointer none,.pointer none,.pointer none,.pointer none,.pointer none,.pointer none,.pointer none,zi 0,zi 0,zi 0,.slice none 0 0,.nilFunc,zu 0,.slice none 0 0,.bool false] 104);have f4b:=heap_alloc2_new w3 (.cells (madeCells #[zi 0,zi 0] (n*2)) 166) (.cells #[zi (n:Int),zu (l:Int),.pointer (some ⟨w1.heap.size+1,0,none⟩),.pointer (some ⟨w2.heap.size+1,0,none⟩),.slice (some ⟨w3.heap.size,0,none⟩) n n,.pointer none,.pointer none,.pointer none,.pointer none,.pointer none,.pointer none,.pointer none,.pointer none,.pointer none,.pointer none,.pointer none,.pointer none,.pointer none,.pointer none,.pointer none,.pointer none,zi 0,zi 0,zi 0,.slice none 0 0,.nilFunc,zu 0,.slice none 0 0,.bool false] 104);refine⟨book0 (w3.heap.size+1) (w1.heap.size+1) w1.heap.size (w2.heap.size+1) w2.heap.size w3.heap.size,rfl,?_,?_⟩
 · refine rep_new HN.out (by omega) f4b ?_ ?_ ?_ ?_ f4a
   · exact (b34.block _ (by omega)).trans ((b23.block _ (by omega)).trans f2b)
   · exact (b34.block _ (by omega)).trans ((b23.block _ (by omega)).trans f2a)
   · exact (b34.block _ (by omega)).trans f3b
   · exact (b34.block _ (by omega)).trans f3a
 · have hall:=((b0w.trans (b12.mono (by omega))).trans (b23.mono (by omega))).trans (b34.mono (by omega))
   refine⟨hall.os,hall.tape,hall.output,hall.size,fun b hb _=>hall.block b hb,fun b hb=>?_,fun b hb e=>by cases e⟩;show (if b=w3.heap.size+1 then some Role.eng else _)=none;rw[if_neg (by omega),if_neg (by omega),if_neg (by omega),if_neg (by omega),if_neg (by omega),if_neg (by omega)]
end Go.Proofs.YtpkenfnmkpmapaaGreat.Em
