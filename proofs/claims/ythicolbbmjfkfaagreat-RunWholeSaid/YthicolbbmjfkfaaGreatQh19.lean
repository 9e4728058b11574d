import Derived.Test.YthicolbbmjfkfaaGreatQh15
import Derived.Test.YthicolbbmjfkfaaGreatQh17
import Derived.Test.YthicolbbmjfkfaaGreatQh18
import Derived.Test.YthicolbbmjfkfaaGreatQh16
set_option linter.unusedVariables false
set_option linter.unusedSimpArgs false
set_option maxRecDepth 100000
set_option maxHeartbeats 1600000
namespace Go.Proofs.YthicolbbmjfkfaaGreat.Em
open Go.ChangeShapes Go.WideShapes Go.ChangeAt Go.RowKit En
variable {A:au} {D:St} {w:World}
theorem Cz (s:Nat):∀ (n:Nat) {A:au} {D:St} {w:World} (hR:aD A D w) (t:bB) (ht:D.ag.getD s none=some t) (c:dF) (hc:D.calls.getD s none=some c) (E:Nat) (hnk:n=c.op.hi+1 - E) (J6:E<=64) (hhi:c.op.hi<=63) (hcx:uA D t) (hpl:c.r.aB.length+n<1000000),
 zk 95 #[R A.Y 0,R (A.bt s) 0,R (A.bc s) 0,I E] w (aZ A w s (fA s n D E)):=by
 intro n
 induction n with
 |zero=>
  intro A D w hR t ht c hc E hnk J6 hhi hcx hpl;have h:=GH hR s t ht c hc E (by omega);have e:fA s 0 D E=(D,.fin c.r):=by unfold fA;rw[aU hc]
  rw[e];exact h
 |succ n ih=>
  intro A D w hR t ht c hc E hnk J6 hhi hcx hpl;have ec:=aU hc;have et:=bQ ht;have V:¬ c.op.hi<E:=by omega
  cases hx:t.cell E with
  |none=>
   have h:=EM hR s t ht c hc E V hx;rw[Cr s n D E (by rw[ec];exact V) (by rw[et];exact hx),et];exact h
  |some x=>
   rw[Cs s n D E x (by rw[ec];exact V) (by rw[et];exact hx)]
   cases hth:x.there with
   |false=>
    rw[aX (by decide)];refine EN hR s t ht c hc E V (by omega) x hx hth _ fun A' G r st bx=>?_
    have h:=ih r t ht c hc (E+1) (by omega) (by omega) hhi hcx (by omega);rw[st.Y,st.bt,st.bc] at h;exact h
   |true=>
    rw[aV rfl];refine EO hR s t ht c hc E V (by omega) x hx hth (hcx E x hx hth) (by omega) _ fun A' G r st bx=>?_
    have hc2:(D.tell s E (D.valueOf x.own)).calls.getD s none=some {c with r:={c.r with aB:=c.r.aB++[(E,D.valueOf x.own)]}}:=by
     unfold St.tell;rw[ec,bS (bH hc),aV rfl]
    have h:=ih r t ht _ hc2 (E+1) (by simp only;omega) (by omega) hhi (fun k y hy hty=>let q:=hcx k y hy hty;⟨q.lo,q.hi,q.u⟩) (by simp only[jF,List.length_cons,List.length_nil];omega);rw[st.Y,st.bt,st.bc] at h;exact h
theorem uD (hR:aD A D w) (s:Nat) (t:bB) (ht:D.ag.getD s none=some t) (c:dF) (hc:D.calls.getD s none=some c) (E:Nat) (J6:E<=64) (hhi:c.op.hi<=63) (hcx:uA D t) (hpl:c.r.aB.length<100000):
 zk 95 #[R A.Y 0,R (A.bt s) 0,R (A.bc s) 0,I E] w (aZ A w s (D.scan s E)):=by
 have h:=Cz s (c.op.hi+1 - E) hR t ht c hc E rfl J6 hhi hcx (by omega);unfold St.scan;rw[aU hc];exact h
theorem MC (hR:aD A D w) (s:Nat) (t:bB) (ht:D.ag.getD s none=some t) (c:dF) (hc:D.calls.getD s none=some c) (E F at_ b0 b1 b2 b3 b4:Nat) (B0:aK A.L w b0 (R (A.bt s) 0)) (B1:aK A.L w b1 (I E)) (B2:lT (kp A D s) A.L w b2 E) (B3:aK A.L w b3 (R A.Y 0)) (B4:aK A.L w b4 (R (A.bc s) 0)) (hl:F=0∨VL D F) (V:E<=63) (hhi:c.op.hi<=63) (hcx:uA D t) (hpl:c.r.aB.length<100000 - 1) (hn:t.reads.length<1000000):
 zk 118 #[zu F,R b0 0,R b1 0,R b2 0,R b3 0,R b4 0] w (aZ A w s (D.thn s ⟨E,at_,.scan E⟩ F)):=by
 obtain⟨vt,X2,m0,m1,UR,N0,N1⟩:=B2;have c0:=B0.cell;have c1:=B1.cell;have n1:IntKind.i64.wrap ((E:Int)+1)=(E:Int)+1:=by rw[jH];omega
 have hr:=mD hR s t ht E F false hn;have HR:=U hr;have ht1:∀ bE:St,bE=D.read s E F false->∃ t',bE.ag.getD s none=some t'∧t'.cells=t.cells:=by
  rintro bE rfl;refine⟨{t with reads:=t.reads++[(E,F,false)]},?_,rfl⟩;unfold St.read;rw[cO (cz ht),aV rfl,bQ ht]
 have ou:(D.read s E F false).aC=D.aC:=rfl;have mX:(D.read s E F false).calls=D.calls:=rfl;have Lg:(D.read s E F false).valueOf F=D.valueOf F:=rfl;have ME:∀ (bE:St) (t':bB),bE.aC=D.aC->t'.cells=t.cells->uA bE t':=by
  intro bE t' h1 h2 k y hy hty;have q:=hcx k y (by unfold bB.cell at hy ⊢;rw[<-h2];exact hy) hty;exact⟨q.lo,by rw[h1];exact q.hi,q.u⟩
 have hlt:=bH hc;obtain⟨aH,kH⟩:∃ aH,aH=D.read s E F false:=⟨_,rfl⟩
 obtain⟨t1,ht1',htc⟩:=ht1 aH kH;rw[<-kH] at ou mX Lg HR;have e1:D.thn s ⟨E,at_,.scan E⟩ F=(if F=0 then aH else aH.tell s E (aH.valueOf F)).scan s (E+1):=by simp only[St.thn,<-kH]
 rw[e1];have HB:Hid (∀ (A1:au) H,Grow A.L w A1.L H->zS H b0 0 (A.bt s) 0∧zT H b1 0 E∧H.cell? (J b2 0)=some vt∧zS H b3 0 A.Y 0∧zS H b4 0 (A.bc s) 0):=fun A1 H g=>⟨(B0.grow g).cell,(B1.grow g).cell,(X2.grow g).cell,(B3.grow g).cell,(B4.grow g).cell⟩
 have hc1:aH.calls.getD s none=some c:=by rw[mX];exact hc
 have Tz:Hid (∀ (A1:au) H,aD A1 aH H->bL A A1 s->zk 95 #[R A.Y 0,R (A.bt s) 0,R (A.bc s) 0,I ((E:Int)+1)] H (aZ A1 H s (aH.scan s (E+1)))):=by
  intro A1 H r st;have h:=uD r s t1 ht1' c hc1 (E+1) (by omega) hhi (ME aH t1 ou htc) (by omega);rw[st.Y,st.bt,st.bc] at h;exact h
 have Rw:Hid (F≠0->∀ (A1:au) H,aD A1 aH H->Grow A.L w A1.L H->bL A A1 s->zk 87 #[R A.Y 0,zu F] H.drew (fun e G=>e=.returned (.pointer (some ⟨A1.bv,2*aj F,none⟩))∧G=H.drew)∧H.drew.cell? ⟨A1.bv,2*aj F+1,none⟩=zt (aH.valueOf F:Int)∧zk 117 #[I (aH.valueOf F:Int),ptr m0,ptr m1] H.drew (Mj A1 H.drew s (aH.tell s E (aH.valueOf F)))):=by
  intro h0 A1 H r g st;have hv:=hl.resolve_left h0;have hv1:VL aH F:=⟨hv.lo,by rw[ou];exact hv.hi,hv.u⟩
  have gd:=g.trans (Grow.drew _ _);have hd:=flip (kZ r.drew F hv1.lo hv1.hi hv1.u);rw[st.Y] at hd;have UT:aK A1.L H.drew m0 (ptr (A1.bc s)):=by
   have:=N0.grow gd;show aK A1.L H.drew m0 (ptr (A1.bc s));rw[st.bc];exact this
  exact⟨hd,(r.drew.val (iw hv1)).2,wU r.drew s c hc1 E (aH.valueOf F) m0 m1 UT (N1.grow gd) (by omega)⟩
 have HS2:Hid (∀ (A1:au) H,aD A1 (aH.tell s E (aH.valueOf F)) H->bL A A1 s->zk 95 #[R A.Y 0,R (A.bt s) 0,R (A.bc s) 0,I ((E:Int)+1)] H (aZ A1 H s ((aH.tell s E (aH.valueOf F)).scan s (E+1)))):=by
  intro A1 H r st;have hc2:(aH.tell s E (aH.valueOf F)).calls.getD s none=some {c with r:={c.r with aB:=c.r.aB++[(E,aH.valueOf F)]}}:=by
   unfold St.tell;rw[aU hc1,bS (bH hc1),aV rfl]
  have h:=uD r s t1 ht1' _ hc2 (E+1) (by omega) hhi (ME _ t1 ou htc) (by simp only[jF,List.length_cons,List.length_nil];omega);rw[st.Y,st.bt,st.bc] at h;exact h
 clear hR ht hc hl V hhi hcx hpl hn hr ht1 ou mX Lg ME hlt e1 hc1 htc ht1' B0 B1 X2 B3 B4 N0 N1 kH;subst UR;generalize aH.valueOf F=va at*
 by_cases h0:F=0
 . rw[aV h0]
   obtain⟨Q9,Ra,Rb,Rc,Re⟩:=qX (x:=F) (c:=0) (ci:=0) (by omega);clear h0 Rw HS2;go_enter Tryz.func118,Tryz.ntmps118;go_wp2_with (first|(go_at_call 116;refine HR.out.mono ?_;rintro e H ⟨rfl,A1,q1,q2,q3,q4,q5⟩;obtain⟨d0,d1,d2,d3,d4⟩:=HB.out A1 H q2;have HQ:=U (zA q1 (zA q2 q3));have Rx:=U (Tz.out A1 H q1 q3);clear q1 q2 q3 q4 q5)|(go_at_call 95;refine Rx.out.mono ?_;rintro e w2 ⟨A2,v,rfl,p1,p2,p3,p4⟩));go_ret;exact⟨A2,v,rfl,p1,HQ.out.2.1.trans p2,HQ.out.2.2.trans p3,p4⟩
 . rw[aX h0]
   obtain⟨Q9,Ra,Rb,Rc,Re⟩:=o9 (x:=F) (c:=0) (ci:=0) (by omega);have HT0:=U (Rw.out h0);clear h0 Rw Tz;go_enter Tryz.func118,Tryz.ntmps118;go_wp2_with (go_at_call 116;refine HR.out.mono ?_;rintro e H ⟨rfl,A1,q1,q2,q3,q4,q5⟩;obtain⟨d0,d1,d2,d3,d4⟩:=HB.out A1 H q2;have HQ:=U (zA q1 (zA q2 q3));clear q1 q2 q3 q4 q5);obtain⟨hd,hv,ht⟩:=HT0.out A1 H HQ.out.1 HQ.out.2.1 HQ.out.2.2;have HD:=U hd;have HT:=U ht;clear hd ht;go_wp2_with fail;refine wp_region_still_tail 7 (by kernel_rfl) (by kernel_rfl) ?_;simp only[jk,jl,jm,jo]
   repeat still_step
   still_call HD.out
   repeat still_step
   refine wpStill_nil ?_;change wpList _ _ _ _ _ H.drew;have JC:=U (HQ.out.2.1.trans (Grow.drew A1.L H));generalize H.drew=wd at*;go_wp2_with (first|(go_at_call 117;refine HT.out.mono ?_;rintro e w2 ⟨rfl,A2,p1,p2,p3,p4⟩;obtain⟨d0,d1,d2,d3,d4⟩:=HB.out A2 w2 (JC.out.trans p2);have Rx:=U (HS2.out A2 w2 p1 (HQ.out.2.2.trans p3));have HY:=U (zA (JC.out.trans p2) (HQ.out.2.2.trans p3));clear p1 p2 p3 p4)|(go_at_call 95;refine Rx.out.mono ?_;rintro e w3 ⟨A3,v,rfl,p1,p2,p3,p4⟩));go_ret;exact⟨A3,v,rfl,p1,HY.out.1.trans p2,HY.out.2.trans p3,p4⟩
def vl (D:St) (l:Nat):Bool:=decide (1<=l % 131072)&&decide (l % 131072<=D.aC)&&decide (l<18446744073709551616)
def FL (D:St) (l:Nat):Bool:=l==0||vl D l
def lq (D:St):Bool:=decide (D.free.length<100000)&&D.free.all (fun i=>decide (i<D.aC))&&D.tags.all (fun p=>decide (p.1<=65535))&&decide (D.iA<1000000)
def ry (D:St) (t:bB):Bool:=t.keys.all fun E=>match t.cell E with|some x=>FL D x.own&&FL D x.old|none=>false
def rz (D:St) (t:bB):Bool:=t.cells.all fun p=>!p.2.there||vl D p.2.own
def qF (D:St) (s:Nat) (h:dw) (F:Nat):Bool:=decide ((D.t s).reads.length<1000000)&&match h.thn with
 |.get=>FL D F
 |.scan k=>decide (k=h.E)&&FL D F&&decide (k<=63)&&decide ((D.c s).op.hi<=63)&&rz D (D.t s)&&decide ((D.c s).r.aB.length<90000)
 |.change=>decide ((D.c s).op.E=h.E)
 |.judge i _=>decide (i+1<=(D.t s).reads.length)
def small (D:St) (i:Nat):Bool:=decide (D.word i<18446744073709551616)
def oP (D:St) (s:Nat):Bool:=decide ((D.t s).aJ.length<1000000)&&decide (D.aP.length<1000000)
def MF (D:St) (s:Nat) (k:K):Bool:=
 decide (D.count<3000000000000000000)&&match k with
 |.fin _=>true
 |.start h=>decide (h.E<64)&&(D.word (9+h.E) !=0||qF D s h 0)
 |.visit h F=>vl D F&&small D (af F 0)
 |.older h F=>vl D F&&(D.word (af F 2) !=0||qF D s h 0)
 |.maker h F id=>decide (id<=2000)&&small D (D.place id)
 |.ended h F mb=>vl D F&&small D (af F 1)&&(mb !=0||qF D s h F)
 |.eY h F mb id=>decide (id<=2000)&&small D (D.place id)&&oP D s&&(mb !=0||qF D s h F)
 |.seen h F mb=>decide (mb<=2000)&&small D (D.place mb)&&oP D s&&qF (if bA (D.word (D.place mb))=2 then D.tick.bind s mb else D.tick) s h F
 |.again _=>match (D.t s).cell (D.c s).op.E with|some x=>vl D x.own|none=>false
 |.own F=>vl D F&&small D (af F 1)
 |.fG _ _ id=>decide (id<=2000)&&small D (D.place id)
 |.claim F _=>vl D F&&decide (1<=(D.t s).id)&&decide ((D.t s).id<=65535)&&((D.t s).cell (D.c s).op.E).isNone&&decide ((D.t s).keys.length<1000000)&&lq D
 |.fresh F=>FL D F&&decide ((D.c s).op.E<64)&&lq D
 |.next F _ at_=>FL D F&&vl D at_&&lq D
 |.free F _ at_=>FL D F&&vl D at_&&lq D&&small D (af at_ 0)
 |.dB F _ _ id=>FL D F&&decide (id<=2000)&&small D (D.place id)&&lq D
 |.dX x F head=>vl D F&&decide (1<=(D.t s).id)&&decide ((D.t s).id<=65535)
 |.dM x F head=>vl D F
 |.push F head=>vl D F
 |.dC F head=>decide ((D.c s).op.E<64)&&((D.t s).cell (D.c s).op.E).isNone&&decide ((D.t s).keys.length<1000000)
 |.over _=>decide ((D.c s).op.E<64)
 |.fU F _=>vl D F
 |.dI _ _=>decide ((D.c s).op.E<64)&&((D.t s).cell (D.c s).op.E).isSome
 |.draw=>decide (D.word 0<18446744073709551616)
 |.dJ x now=>decide (x<18446744073709551616)&&decide (aT x<=2000)
 |.turn x now=>decide (now<281474976710655)&&decide ((D.t s).id<65536)&&decide (D.aP.length<1000000)
 |.dD=>decide ((D.t s).ax<281474976710656)&&decide ((D.t s).id<=2000)&&decide ((D.t s).reads.length<1000000)
 |.wait i=>match (D.t s).aJ[i]? with|some bd=>decide (bd<=2000)&&small D (D.place bd)&&decide ((D.t s).aJ.length<1000000)|none=>false
 |.bO=>decide ((D.t s).ax<=1099511627776)&&decide ((D.t s).id<=2000)&&decide ((D.t s).keys.length<1000000)&&ry D (D.t s)&&decide (D.aP.length<1000000)
 |.abort _ _=>decide ((D.t s).ax<=1099511627776)&&decide (1<=(D.t s).id)&&decide ((D.t s).id<=2000)&&decide ((D.t s).keys.length<1000000)&&ry D (D.t s)&&decide (D.aP.length<1000000)
 |.turns [] r=>true
 |.turns (x::l) r=>decide (x.at_<D.words.length)
theorem iD {D:St} {l:Nat} (h:vl D l=true):VL D l:=by
 unfold vl at h;simp only[gQ,zd] at h;exact⟨h.1.1,h.1.2,h.2⟩
theorem lV {D:St} {l:Nat} (h:FL D l=true):l=0∨VL D l:=by
 unfold FL at h;simp only[oL,beq_iff_eq] at h;exact h.imp id iD
theorem jS {D:St} (hn:D.tags.length=D.aC) (h:lq D=true):iL D:=by
 unfold lq at h;simp only[gQ,zd,List.all_eq_true] at h;refine⟨h.1.1.1,fun i hi=>by simpa using h.1.1.2 i hi,fun i hi=>?_,h.2⟩;have:(D.tags.getD i (0,false))∈D.tags:=by
  rw[mM,zx (by omega)];exact List.getElem_mem _
 simpa using h.1.2 _ this
theorem uE {D:St} {t:bB} (h:ry D t=true):Cy D t:=by
 intro E V;unfold ry at h;rw[List.all_eq_true] at h;have:=h E V
 cases hc:t.cell E with
 |none=>rw[hc] at this;cases this
 |some x=>
  rw[hc] at this;simp only[gQ] at this;exact⟨x,rfl,lV this.1,lV this.2⟩
theorem J7 {l:List (Nat×jr)} {E:Nat} {x:jr} (h:l.lookup E=some x):(E,x)∈l:=by
 induction l with
 |nil=>cases h
 |cons a l ih=>
  obtain⟨k,y⟩:=a;rw[List.lookup_cons] at h
  by_cases V:E=k
  . subst V
    simp at h;subst h;exact lJ
  . rw[beq_false_of_ne V] at h
    exact pq _ (ih h)
theorem uF {D:St} {t:bB} (h:rz D t=true):uA D t:=by
 intro E x hx hth;unfold rz at h;rw[List.all_eq_true] at h;have:=h _ (J7 hx);simp only[hth,Bool.not_true,Bool.false_or] at this;exact iD this
theorem iy {D:St} {i:Nat} (h:small D i=true):D.word i<18446744073709551616:=by unfold small at h;simpa using h
theorem mG (hR:aD A D w) {id:Nat} (h:id<=2000):D.place id<D.words.length:=by rw[hR.nw];unfold St.place;omega
theorem bM {f f':FuncId} {b b' c c':Array Value} (h:Value.func (.func f) b c=.func (.func f') b' c'):f=f'∧b=b'∧c=c':=by
 simp only[Value.func.injEq,Fn.func.injEq] at h;exact h
theorem lu {D:St} {s:Nat} {t:bB} (ht:D.ag.getD s none=some t) {c:dF} (hc:D.calls.getD s none=some c) {hu:dw} {F:Nat} (h:qF D s hu F=true):uo D s hu F:=by
 intro A w hR hmp H f cc r g hth;obtain⟨E,at_,thn⟩:=hu;unfold qF at h;rw[bQ ht,aU hc,gQ,zd] at h;obtain⟨hrl,h⟩:=h
 cases thn<;>simp only[gQ,zd] at h
 case get=>
  obtain⟨b0,b1,b2,b3,e,k0,k1,k2,k3⟩:=hth;obtain⟨rfl,-,rfl⟩:=bM e;exact Oq r s t ht E F b0 b1 b2 b3 k0 k1 k2 k3 at_ (lV h) hrl
 case scan k=>
  obtain⟨⟨⟨⟨⟨rfl,h1⟩,h2⟩,h3⟩,h4⟩,h5⟩:=h;obtain⟨b0,b1,b2,b3,b4,e,k0,k1,k2,k3,k4⟩:=hth;obtain⟨rfl,-,rfl⟩:=bM e;exact MC r s t ht c hc k F at_ b0 b1 b2 b3 b4 k0 k1 k2 k3 k4 (lV h1) h2 h3 (uF h4) (by omega) hrl
 case change=>
  obtain⟨b0,b1,b2,b3,e,k0,k1,k2,k3⟩:=hth;obtain⟨rfl,-,rfl⟩:=bM e;exact Gg r s t ht c hc E F b0 b1 b2 b3 h k0 k1 k2 k3 at_ hrl
 case judge i l=>
  obtain⟨b0,b1,b2,b3,b4,e,k0,k1,k2,k3,k4⟩:=hth;obtain⟨rfl,-,rfl⟩:=bM e;exact JN r s t ht i l at_ E F b0 b1 b2 b3 b4 k0 k1 k2 k3 k4 h hrl
theorem GQ {D:St} {s tq:Nat} {t:bB} (ht:D.ag.getD s none=some t):∃ t',(D.bind s tq).ag.getD s none=some t':=by
 unfold St.bind;rw[bQ ht]
 split
 . exact⟨t,ht⟩
 . exact⟨{t with aJ:=t.aJ++[tq]},by show (D.bq s _).ag.getD s none=_;rw[cO (cz ht),aV rfl]⟩
theorem CB (D:St) (s tq:Nat):(D.bind s tq).calls=D.calls:=by unfold St.bind;split<;>rfl
set_option maxHeartbeats 4000000 in
theorem MG {D:St} {s:Nat} (hs:s<8) {t:bB} (ht:D.ag.getD s none=some t) {c:dF} (hc:D.calls.getD s none=some c) (k:K) (h:MF D s k=true):yw D s k:=by
 intro A H f b cc hR hmp hmt V;unfold MF at h;rw[gQ,zd] at h;obtain⟨TB,h⟩:=h;have aQ:D.count<4000000000000000000:=by omega
 have et:=bQ ht;have ec:=aU hc
 cases k
 case fin r=>
  obtain⟨b0,b1,b2,e,k0,k1,k2⟩:=V;obtain⟨rfl,rfl,rfl⟩:=bM e;exact Ou hR s c hc r b0 b1 b2 k0 k1 k2
 case start hu=>
  obtain⟨bh,e,k0⟩:=V;obtain⟨rfl,rfl,rfl⟩:=bM e;simp only[gQ,zd,oL,bne_iff_ne] at h;exact Jo hR s hu bh k0 h.1 aQ fun hz w2 r2 g2=>lu (D:=D.tick) ht hc (h.2.resolve_left (fun hne=>hne hz)) A w2 r2 hmp
 case visit hu F=>
  obtain⟨b0,b1,e,k0,k1⟩:=V;obtain⟨rfl,rfl,rfl⟩:=bM e;simp only[et,ec,gQ,zd,oL,bne_iff_ne,sM,qV] at h;obtain⟨h1,h2⟩:=h;exact Ji hR s t ht hu F b0 b1 k0 k1 (iD h1).lo (iD h1).hi (iD h1).u (iy h2) aQ
 case older hu F=>
  obtain⟨b0,b1,e,k0,k1⟩:=V;obtain⟨rfl,rfl,rfl⟩:=bM e;simp only[et,ec,gQ,zd,oL,bne_iff_ne,sM,qV] at h;obtain⟨h1,h2⟩:=h;exact Jt hR s hmp hu F b0 b1 k0 k1 (iD h1) aQ (fun hz=>lu (D:=D.tick) ht hc (h2.resolve_left (fun hne=>hne hz)))
 case maker hu F id=>
  obtain⟨b0,b1,b2,e,k0,k1,k2⟩:=V;obtain⟨rfl,rfl,rfl⟩:=bM e;simp only[et,ec,gQ,zd,oL,bne_iff_ne,sM,qV] at h;obtain⟨h1,h2⟩:=h;exact Ju hR s hu F id b0 b1 b2 k0 k1 k2 (by omega) (mG hR h1) (iy h2) aQ
 case ended hu F mb=>
  obtain⟨b0,b1,b2,e,k0,k1,k2⟩:=V;obtain⟨rfl,rfl,rfl⟩:=bM e;simp only[et,ec,gQ,zd,oL,bne_iff_ne,sM,qV] at h;obtain⟨⟨h1,h2⟩,h3⟩:=h;exact JO hR s hmp t ht hu F mb b0 b1 b2 k0 k1 k2 (iD h1) (iy h2) aQ (fun hz=>lu (D:=D.tick) ht hc (h3.resolve_left (fun hne=>hne hz)))
 case eY hu F mb id=>
  obtain⟨b0,b1,b2,b3,e,k0,k1,k2,k3⟩:=V;obtain⟨rfl,rfl,rfl⟩:=bM e;simp only[et,ec,gQ,zd,oL,bne_iff_ne,sM,qV] at h;unfold oP at h;simp only[et,gQ,zd] at h;obtain⟨⟨⟨h1,h2⟩,h3,h4⟩,h5⟩:=h;exact JB hR s hmp t ht hu F mb id b0 b1 b2 b3 k0 k1 k2 k3 (by omega) (mG hR h1) (iy h2) h3 h4 aQ (fun hz=>lu (D:=D.tick) ht hc (h5.resolve_left (fun hne=>hne hz)))
 case seen hu F mb=>
  obtain⟨b0,b1,b2,e,k0,k1,k2⟩:=V;obtain⟨rfl,rfl,rfl⟩:=bM e;simp only[et,ec,gQ,zd,oL,bne_iff_ne,sM,qV] at h;unfold oP at h;simp only[et,gQ,zd] at h;obtain⟨⟨⟨h1,h2⟩,h3,h4⟩,h5⟩:=h;have Ry:uo (if bA (D.word (D.place mb))=2 then D.tick.bind s mb else D.tick) s hu F:=by
   split at h5
   . rename_i hq
     rw[aV hq];obtain⟨t',ht'⟩:=GQ (D:=D.tick) (tq:=mb) ht;exact lu ht' (by rw[CB];exact hc) h5
   . rename_i hq
     rw[aX hq];exact lu (D:=D.tick) ht hc h5
  exact Md hR s hmp t ht hu F mb b0 b1 b2 k0 k1 k2 (by omega) (mG hR h1) (iy h2) h3 h4 aQ Ry (fun _ _=>trivial)
 case again en=>
  obtain⟨b0,b1,b2,b3,e,k0,k1,k2,k3⟩:=V;obtain⟨rfl,rfl,rfl⟩:=bM e;simp only[et,ec,gQ,zd,oL,bne_iff_ne,sM,qV] at h
  cases hx:t.cell c.op.E with
  |none=>rw[hx] at h;cases h
  |some x=>
  rw[hx] at h
  by_cases hkd:c.op.kind=4
  . exact Aw hR s t ht c hc en x hx (iD h) hkd aQ b0 b1 b2 b3 k0 k1 k2 k3
  exact Ay hR s t ht c hc en x hx (iD h) hkd aQ b0 b1 b2 b3 k0 k1 k2 k3
 case own F=>
  obtain⟨b0,b1,b2,b3,e,k0,k1,k2,k3⟩:=V;obtain⟨rfl,rfl,rfl⟩:=bM e;simp only[et,ec,gQ,zd,oL,bne_iff_ne,sM,qV] at h;obtain⟨h1,h2⟩:=h;exact O6 hR s t ht F (iD h1) (iy h2) aQ b0 b1 b2 b3 k0 k1 k2 k3
 case fG F x1 id=>
  obtain⟨b0,b1,b2,b3,b4,b5,e,k0,k1,k2,k3,k4,k5⟩:=V;obtain⟨rfl,rfl,rfl⟩:=bM e;simp only[et,ec,gQ,zd,oL,bne_iff_ne,sM,qV] at h;obtain⟨h1,h2⟩:=h;exact Gz hR s F x1 id (by omega) (mG hR h1) (iy h2) aQ b0 b1 b2 b3 b4 b5 k0 k1 k2 k3 k4 k5
 case claim F x1=>
  obtain⟨b0,b1,b2,b3,b4,e,k0,k1,k2,k3,k4⟩:=V;obtain⟨rfl,rfl,rfl⟩:=bM e;simp only[et,ec,gQ,zd,oL,bne_iff_ne,sM,qV] at h;obtain⟨⟨⟨⟨⟨h1,h2⟩,h3⟩,h4⟩,h5⟩,h6⟩:=h;exact JK hR s t ht c hc hmp F x1 (iD h1) h2 h3 h4 h5 (jS hR.nt h6) aQ b0 b1 b2 b3 b4 k0 k1 k2 k3 k4
 case fresh F=>
  obtain⟨b0,b1,b2,b3,e,k0,k1,k2,k3⟩:=V;obtain⟨rfl,rfl,rfl⟩:=bM e;simp only[et,ec,gQ,zd,oL,bne_iff_ne,sM,qV] at h;obtain⟨⟨h1,h2⟩,h3⟩:=h;exact Jm hR s c hc F (lV h1) h2 hmp (jS hR.nt h3) aQ b0 b1 b2 b3 k0 k1 k2 k3
 case next F hd at_=>
  obtain⟨b0,b1,b2,b3,b4,b5,e,k0,k1,k2,k3,k4,k5⟩:=V;obtain⟨rfl,rfl,rfl⟩:=bM e;simp only[et,ec,gQ,zd,oL,bne_iff_ne,sM,qV] at h;obtain⟨⟨h1,h2⟩,h3⟩:=h;exact LM hR s c hc F hd at_ (lV h1) (iD h2) hmp (jS hR.nt h3) aQ b0 b1 b2 b3 b4 b5 k0 k1 k2 k3 k4 k5
 case free F hd at_=>
  obtain⟨b0,b1,b2,b3,b4,b5,e,k0,k1,k2,k3,k4,k5⟩:=V;obtain⟨rfl,rfl,rfl⟩:=bM e;simp only[et,ec,gQ,zd,oL,bne_iff_ne,sM,qV] at h;obtain⟨⟨⟨h1,h2⟩,h3⟩,h4⟩:=h;exact Mo hR s t ht F hd at_ (lV h1) (iD h2) (jS hR.nt h3) (iy h4) aQ b0 b1 b2 b3 b4 b5 k0 k1 k2 k3 k4 k5
 case dB F hd at_ id=>
  obtain⟨b0,b1,b2,b3,b4,b5,e,k0,k1,k2,k3,k4,k5⟩:=V;obtain⟨rfl,rfl,rfl⟩:=bM e;simp only[et,ec,gQ,zd,oL,bne_iff_ne,sM,qV] at h;obtain⟨⟨⟨h1,h2⟩,h3⟩,h4⟩:=h;exact ED hR s t ht F hd at_ id (lV h1) (by omega) (mG hR h2) (iy h3) (jS hR.nt h4) aQ b0 b1 b2 b3 b4 b5 k0 k1 k2 k3 k4 k5
 case dX x F hd=>
  obtain⟨b0,b1,b2,b3,b4,b5,e,k0,k1,k2,k3,k4,k5⟩:=V;obtain⟨rfl,rfl,rfl⟩:=bM e;simp only[et,ec,gQ,zd,oL,bne_iff_ne,sM,qV] at h;obtain⟨⟨h1,h2⟩,h3⟩:=h;exact Jj hR s t ht b0 b1 b2 b3 b4 b5 x F hd k0 k1 k2 k3 k4 k5 aQ (iD h1) h2 h3
 case dM x F hd=>
  obtain⟨b0,b1,b2,b3,b4,b5,e,k0,k1,k2,k3,k4,k5⟩:=V;obtain⟨rfl,rfl,rfl⟩:=bM e;exact JI hR s t ht x F hd aQ (iD h) b0 b1 b2 b3 b4 b5 k0 k1 k2 k3 k4 k5
 case push F hd=>
  obtain⟨b0,b1,b2,b3,b4,e,k0,k1,k2,k3,k4⟩:=V;obtain⟨rfl,rfl,rfl⟩:=bM e;exact LJ hR s t ht b0 b1 b2 b3 b4 F hd k0 k1 k2 k3 k4 aQ (iD h)
 case dC F hd=>
  obtain⟨b0,b1,b2,b3,b4,e,k0,k1,k2,k3,k4⟩:=V;obtain⟨rfl,rfl,rfl⟩:=bM e;simp only[et,ec,gQ,zd,oL,bne_iff_ne,sM,qV] at h;obtain⟨⟨h1,h2⟩,h3⟩:=h;exact Js hR s t ht c hc F hd h1 h2 h3 aQ b0 b1 b2 b3 b4 k0 k1 k2 k3 k4
 case over F=>
  obtain⟨b0,b1,b2,b3,b4,e,k0,k1,k2,k3,k4⟩:=V;obtain⟨rfl,rfl,rfl⟩:=bM e;simp only[et,ec,gQ,zd,oL,bne_iff_ne,sM,qV] at h;exact Me hR s c hc F h aQ b0 b1 b2 b3 b4 k0 k1 k2 k3 k4
 case fU F hd=>
  obtain⟨b0,b1,b2,b3,b4,b5,e,k0,k1,k2,k3,k4,k5⟩:=V;obtain⟨rfl,rfl,rfl⟩:=bM e;exact Jk hR s t ht b0 b1 b2 b3 b4 b5 F hd k0 k1 k2 k3 k4 k5 aQ (iD h)
 case dI F hd=>
  obtain⟨b0,b1,b2,b3,b4,b5,e,k0,k1,k2,k3,k4,k5⟩:=V;obtain⟨rfl,rfl,rfl⟩:=bM e;simp only[et,ec,gQ,zd,oL,bne_iff_ne,sM,qV] at h;obtain⟨h1,x,hx⟩:=h;exact JM hR s t ht c hc F hd h1 x hx aQ b0 b1 b2 b3 b4 b5 k0 k1 k2 k3 k4 k5
 case draw=>
  obtain⟨b0,b1,b2,e,k0,k1,k2⟩:=V;obtain⟨rfl,rfl,rfl⟩:=bM e;simp only[et,ec,gQ,zd,oL,bne_iff_ne,sM,qV] at h;exact Mg hR s h aQ b0 b1 b2 k0 k1 k2
 case dJ x now=>
  obtain⟨b0,b1,b2,e,k0,k1,k2⟩:=V;obtain⟨rfl,rfl,rfl⟩:=bM e;simp only[et,ec,gQ,zd,oL,bne_iff_ne,sM,qV] at h;obtain⟨h1,h2⟩:=h;exact JJ hR s x now h1 h2 aQ b0 b1 b2 k0 k1 k2
 case turn x now=>
  obtain⟨b0,b1,b2,b3,b4,e,k0,k1,k2,k3,k4⟩:=V;obtain⟨rfl,rfl,rfl⟩:=bM e;simp only[et,ec,gQ,zd,oL,bne_iff_ne,sM,qV] at h;obtain⟨⟨h1,h2⟩,h3⟩:=h;exact Mh hR s t ht x now h1 h2 h3 aQ b0 b1 b2 b3 b4 k0 k1 k2 k3 k4
 case dD=>
  obtain⟨b0,b1,b2,e,k0,k1,k2⟩:=V;obtain⟨rfl,rfl,rfl⟩:=bM e;simp only[et,ec,gQ,zd,oL,bne_iff_ne,sM,qV] at h;obtain⟨⟨h1,h2⟩,h3⟩:=h;exact J2 hR s t ht h1 h2 h3 aQ b0 b1 b2 k0 k1 k2
 case wait i=>
  obtain⟨b0,b1,b2,b3,b4,e,k0,k1,k2,k3,k4⟩:=V;obtain⟨rfl,rfl,rfl⟩:=bM e;simp only[et,ec,gQ,zd,oL,bne_iff_ne,sM,qV] at h
  cases Z:t.aJ[i]? with
  |none=>rw[Z] at h;cases h
  |some bd=>
  rw[Z] at h;simp only[gQ,zd] at h;obtain⟨⟨h1,h2⟩,h3⟩:=h;exact Mi hR s t ht c hc i bd Z h3 (by omega) (mG hR h1) (iy h2) aQ b0 b1 b2 b3 b4 k0 k1 k2 k3 k4
 case bO=>
  obtain⟨b0,b1,b2,e,k0,k1,k2⟩:=V;obtain⟨rfl,rfl,rfl⟩:=bM e;simp only[et,ec,gQ,zd,oL,bne_iff_ne,sM,qV] at h;obtain⟨⟨⟨⟨h1,h2⟩,h3⟩,h4⟩,h5⟩:=h;exact GK hR s t ht hmt h1 h2 h3 (uE h4) h5 aQ b0 b1 b2 k0 k1 k2
 case abort er re=>
  obtain⟨b0,b1,b2,b3,b4,e,k0,k1,k2,k3,k4⟩:=V;obtain⟨rfl,rfl,rfl⟩:=bM e;simp only[et,ec,gQ,zd,oL,bne_iff_ne,sM,qV] at h;obtain⟨⟨⟨⟨⟨h1,h2⟩,h3⟩,h4⟩,h5⟩,h6⟩:=h;exact J5 hR s t ht hmt er re h1 h2 h3 h4 (uE h5) h6 aQ b0 b1 b2 b3 b4 k0 k1 k2 k3 k4
 case turns l r=>
  cases l with
  |nil=>
   obtain⟨b0,b1,b2,b3,e,k0,k1,k2,k3⟩:=V;obtain⟨rfl,rfl,rfl⟩:=bM e;exact Gx hR s t ht c hc r hs aQ b0 b1 b2 b3 k0 k1 k2 k3
  |cons x l=>
   obtain⟨b0,b1,b2,b3,b4,e,k0,k1,k2,k3,k4⟩:=V;obtain⟨rfl,rfl,rfl⟩:=bM e;simp only[zd] at h;exact Gy hR s c hc x l r h aQ b0 b1 b2 b3 b4 k0 k1 k2 k3 k4
def eT (id ak bg:Nat):bB:={id:=id,ak:=ak,aG:=bg,ax:=0,ops:=0,keys:=[],cells:=[],reads:=[],aJ:=[],over:=false}
theorem uG (D:St) (x:Nat):(D.bT x).count=D.count+1:=by unfold St.bT St.bP;split<;>rfl
theorem CE (D:St) (x id:Nat):(D.bT x).place id=D.place id:=by unfold St.bT St.bP;split<;>rfl
theorem ER (D:St) (x:Nat):(D.bT x).aP=D.aP:=by unfold St.bT St.bP;split<;>rfl
theorem wZ (D:St) (i a b:Nat):(D.bP i a b).count=D.count+1:=by unfold St.bP;split<;>rfl
theorem xc (D:St) (i a b id:Nat):(D.bP i a b).place id=D.place id:=by unfold St.bP;split<;>rfl
theorem AP (D:St) (i a b:Nat):(D.bP i a b).ag=D.ag:=by unfold St.bP;split<;>rfl
theorem mH (D:St) (i a b:Nat):(D.bP i a b).calls=D.calls:=by unfold St.bP;split<;>rfl
theorem AQ (D:St) (i a b:Nat):(D.bP i a b).aP=D.aP:=by unfold St.bP;split<;>rfl
def GR (A:au) (w:World) (bE:St) (id:Nat):Ending->World->Prop:=fun e G=>∃ A',e=.returned (.tuple #[I id,I 0])∧Live A' bE G∧Grow A.L w A'.L G∧A'.Y=A.Y
theorem ES (hL:Live A D w) (s:Nat) (hs:s<8) (ak:Nat) (hl1:1<=ak) (hl2:ak<=3) (hn:D.ag.getD s none=none) (hcn:D.calls.getD s none=none) (hmd:D.aA<2000) (hx:D.word 0<18446744073709551616) (nP:ai (D.word 0)<281474976710000) (hlim:ai (D.word 0)<D.limit) (hlo:aT (D.word 0)=0) (aQ:D.count<3000000000000000000) (htl:D.aP.length<1000000):
 zk 9 #[R A.Y 0,I s,I ak] w (GR A w (((((({D.tick with aA:=D.aA+1}:St).bP 0 (D.word 0) (aO (ai (D.word 0)+1) 0)).put (D.place (D.aA+1)) (pack 1 0)).put (1+s) (ai (D.word 0)+1)).bq s (eT (D.aA+1) ak (ai (D.word 0)+1))).event {kind:=1,t:=D.aA+1,n:=ai (D.word 0)+1,op:=⟨0,0,0,ak⟩}) (D.aA+1)):=by
 have hR:=hL.rep;generalize CF:({D.tick with aA:=D.aA+1}:St).bP 0 (D.word 0) (aO (ai (D.word 0)+1) 0)=dL;have AR:Hid (({D.tick with aA:=D.aA+1}:St).bP 0 (D.word 0) (aO (ai (D.word 0)+1) 0)=dL∧dL.place (D.aA+1)=D.place (D.aA+1)∧dL.ag=D.ag∧dL.calls=D.calls∧dL.aP=D.aP∧dL.count<3000000000000000010):=by
  refine⟨CF,?_,?_,?_,?_,?_⟩<;>rw[<-CF]
  . rw[xc];rfl
  . rw[AP];rfl
  . rw[mH];rfl
  . rw[AQ];rfl
  . rw[wZ];show D.count+1+1<_;omega
 clear CF;have b1:(s:Int)<8:=by omega
 have b0:(0:Int)<=(s:Int):=by omega
 have ll:=U (gu s hs);have MH:=U (DT ak hl1 hl2);have e2:=hR.z2;have v5:=hR.eH (5+s) (dV A D hs);rw[show A.tp D s=.pointer none by unfold au.tp;rw[hn]] at v5;have v21:w.cell? (J A.Y 21)=zt (D.aA:Int):=hR.eH 21 rfl;have d1:decide ((2000:Int)<=(D.aA:Int))=false:=by simp;omega
 have d2:((2000:Int)<=(D.aA:Int))=False:=by simp;omega
 have d3:(2000<=D.aA)=False:=by simp;omega
 have l1:decide ((D.limit:Int)<=(ai (D.word 0):Int))=false:=by simp;omega
 have l2:((D.limit:Int)<=(ai (D.word 0):Int))=False:=by simp;omega
 have l3:(D.limit<=ai (D.word 0))=False:=by simp;omega
 have k1:decide ((0:Int)<(aT (D.word 0):Int))=false:=by simp;omega
 have k2:((0:Int)<(aT (D.word 0):Int))=False:=by simp;omega
 have k3:(0<aT (D.word 0))=False:=by simp;omega
 have n1:IntKind.i64.wrap ((D.aA:Int)+1)=(D.aA:Int)+1:=by rw[jH];omega
 have n2:IntKind.u64.wrap ((ai (D.word 0):Int)+1)=(ai (D.word 0):Int)+1:=by rw[IntKind.wrap_u64];omega
 have n3:IntKind.i64.wrap (1+(s:Int))=1+(s:Int):=by rw[jH];omega
 have Rz:=U (oz hR 0 0 rfl (by rw[hR.nw];omega) (by omega));have RA:=U (fun G=>kU (D.word 0) hx G);have H1:Hid (∀ H,aD A D.tick H->Grow A.L w A.L H->zV H A.Y 1 (D.limit:Int)∧zT H A.Y 21 (D.aA:Int)∧H.frozen? (J A.Y 21)=false):=
  fun H r g=>⟨r.eH 1 rfl,r.eH 21 rfl,r.pK 21⟩
 have hmm:∀ w,(Instr.makeMap 116 none).run Tryz.prog w=.ok (.map (some w.heap.size)) (w.alloc (.map #[] 0)):=fun w=>rfl
 have sW:=U (zA hL (zA hs (zA hn (zA hcn (zA hmd (zA nP (zA aQ (zA htl hx))))))));clear hL hs hl1 hl2 hn hcn hmd hx nP hlim hlo aQ htl;clear hR;go_enter Tryz.func9,Tryz.ntmps9;go_wp2_with (first|(go_at_call 40;refine (ll.out _).mono ?_;rintro e G ⟨rfl,rfl⟩)|(go_at_call 41;refine (MH.out _).mono ?_;rintro e G ⟨rfl,rfl⟩)|(go_at_call 42;refine Rz.out.mono ?_;rintro e H ⟨rfl,q1,q2⟩;obtain⟨y1,y2,y3⟩:=H1.out H q1 q2;have RB:=U (zA q1 q2);clear q1 q2)|(go_at_call 43;refine (RA.out _).mono ?_;rintro e G ⟨rfl,rfl⟩));obtain⟨hL,hs,hn,hcn,hmd,nP,aQ,htl,hx⟩:=sW.out;obtain⟨r1,g1⟩:=RB.out;obtain⟨rm,gm⟩:=r1.Dp (D.aA+1);rw[show ((D.aA+1:Nat):Int)=(D.aA:Int)+1 from rfl] at rm gm;have hz3:(H.setCell (J A.Y 21) (I ((D.aA:Int)+1))).heap.size=H.heap.size:=by simp[World.setCell]
 generalize hw3:H.setCell (J A.Y 21) (I ((D.aA:Int)+1))=w3 at*;generalize hw4:(w3.alloc (.map #[] 0)).alloc _=w4;have r4:aD A ({D.tick with aA:=D.aA+1}:St) w4:=by rw[<-hw4];exact (rm.alloc _).alloc _
 have Pk:Grow A.L w3 A.L w4:=by rw[<-hw4];exact (Grow.alloc _ _ _).trans (Grow.alloc _ _ _)
 have g4:Grow A.L w A.L w4:=(g1.trans gm).trans Pk;have Pm:w4.heap[H.heap.size]? =some (.map #[] 0):=by rw[<-hw4,<-hz3];exact (Below.heap_alloc _ _ _ (by simp)).trans (heap_alloc_new w3 _)
 have hb4:w4.heap[H.heap.size+1]? =some (.cells #[I ((D.aA:Int)+1),I ak,I s,zu ((ai (D.word 0):Int)+1),zu 0,I 0,.slice none 0 0,.map (some H.heap.size),.slice none 0 0,.slice none 0 0,.int .u32 0,.int .i32 0,.int .u32 0,.bool false] 131):=by rw[<-hw4,<-hz3];exact heap_alloc2_new w3 _ _
 have CG:A.L H.heap.size=none:=by rw[<-hz3];exact rm.mem.fresh _ (zr _)
 have hbL:A.L (H.heap.size+1)=none:=by rw[<-hz3];exact rm.mem.fresh _ (by omega)
 have hle:w.heap.size<=H.heap.size:=g1.size;have F4:Fix A.L w4 (H.heap.size+1) (.cells #[I ((D.aA:Int)+1),I ak,I s,zu ((ai (D.word 0):Int)+1),zu 0,I 0,.slice none 0 0,.map (some H.heap.size),.slice none 0 0,.slice none 0 0,.int .u32 0,.int .i32 0,.int .u32 0,.bool false] 131):=⟨hbL,hb4⟩
 have M4:Fix A.L w4 H.heap.size (.map #[] 0):=⟨CG,Pm⟩
 have a2:=r4.eH 2 (v:=R A.ba 0) rfl;have a3:=F4.cell 3 (v:=zu ((ai (D.word 0):Int)+1)) rfl;have V:zk 46 #[zu ((ai (D.word 0):Int)+1),I 0] w4.drew fun e G=>e=.returned (zu ((aO (ai (D.word 0)+1) 0:Nat):Int))∧G=w4.drew:=flip (mE (ai (D.word 0)+1) 0 (by omega) (by omega) w4.drew)
 have HC:=U V;have NJ:=U (rX r4.drew 0 (D.word 0) (aO (ai (D.word 0)+1) 0) 0 rfl (by rw[r4.nw];omega) (by show D.count+1<_;omega));have H4:=U (zA g4 (zA F4 (zA M4 (zA CG (zA hbL hle)))));clear hL hs hn hcn hmd nP aQ htl hx r1 g1 rm gm hz3 hw3 hw4 r4 Pk g4 Pm hb4 CG hbL hle F4 M4 V;refine wp_region_still_tail 10 (by kernel_rfl) (by kernel_rfl) ?_;simp only[jk,jl,jm,jo]
 repeat still_step
 still_call HC.out
 refine wpStill_nil ?_;change wpList _ _ _ _ _ w4.drew;have RD:Hid (Grow A.L w4 A.L w4.drew):=Grow.drew _ _;generalize w4.drew=wd4 at*;go_wp2_with (go_at_call 45;refine NJ.out.mono ?_;rintro e w5 ⟨rfl,q1,q2⟩);obtain⟨g4,F4,M4,CG,hbL,hle⟩:=H4.out;obtain⟨hL,hs,hn,hcn,hmd,nP,aQ,htl,hx⟩:=sW.out;rw[AR.out.1] at q1;obtain⟨-,p4,GU,ET,J8,GV⟩:=AR.out;have J9:=RD.out.trans q2;have F5:=F4.grow J9;have M5:=M4.grow J9;have g5:=g4.trans J9;have a2:=q1.eH 2 (v:=R A.ba 0) rfl;have a0:=F5.cell 0 (v:=I ((D.aA:Int)+1)) rfl;have hpl:zk 48 #[R A.Y 0,I ((D.aA:Int)+1)] w5.drew fun e G=>e=.returned (I ((D.place (D.aA+1):Nat):Int))∧G=w5.drew:=by
  have h:=fB q1.drew (D.aA+1) (by omega);rw[p4] at h;exact h
 have RF:=U hpl;have RG:=U (jM 1 0 1 0 rfl rfl (by omega) (by omega) w5.drew);have HST:=U (fC q1.drew (D.place (D.aA+1)) (pack 1 0) (by rw[q1.nw];have:=q1.sl;have:=congrArg (fun x=>x) p4;unfold St.place at p4 ⊢;omega) (by omega));have H5:=U (zA g5 (zA F5 (zA M5 q1)));clear hL hs hn hcn hmd nP aQ htl hx g4 F4 M4 CG hbL hle J9 F5 M5 g5 q1 q2 hpl p4 GU ET J8 GV;refine wp_region_still_tail 11 (by kernel_rfl) (by kernel_rfl) ?_;simp only[jk,jl,jm,jo]
 repeat still_step
 still_call RF.out
 still_call RG.out
 refine wpStill_nil ?_;change wpList _ _ _ _ _ w5.drew;have RH:Hid (Grow A.L w5 A.L w5.drew):=Grow.drew _ _;generalize w5.drew=UU at*;go_wp2_with (go_at_call 47;refine HST.out.mono ?_;rintro e w6 ⟨rfl,q1,q2⟩);obtain⟨g5,F5,M5,_⟩:=H5.out;obtain⟨hL,hs,hn,hcn,hmd,nP,aQ,htl,hx⟩:=sW.out;have GV:=AR.out.2.2.2.2.2;have vQ:=RH.out.trans q2;have F6:=F5.grow vQ;have M6:=M5.grow vQ;have g6:=g5.trans vQ;have a2:=q1.eH 2 (v:=R A.ba 0) rfl;have a3:=F6.cell 3 (v:=zu ((ai (D.word 0):Int)+1)) rfl;have RI:=U (yz q1.drew (1+s) (ai (D.word 0)+1) (1+(s:Int)) ((ai (D.word 0):Int)+1) (by omega) (by omega) (by rw[q1.nw];omega) (by show dL.count+1<_;omega));have H6:=U (zA g6 (zA F6 M6));have HV5:Hid (∀ w7,aD A ((dL.put (D.place (D.aA+1)) (pack 1 0)).put (1+s) (ai (D.word 0)+1)) w7->w7.cell? (J A.Y (5+s))=some (.pointer none)∧w7.frozen? (J A.Y (5+s))=false):=by
  intro w7 r;have h:=r.eH (5+s) (dV A _ hs);rw[show A.tp ((dL.put (D.place (D.aA+1)) (pack 1 0)).put (1+s) (ai (D.word 0)+1)) s=.pointer none by unfold au.tp;rw[show ((dL.put (D.place (D.aA+1)) (pack 1 0)).put (1+s) (ai (D.word 0)+1)).ag.getD s none=none by show dL.ag.getD s none=none;rw[AR.out.2.2.1];exact hn]] at h;exact⟨h,r.pK _⟩
 clear hL hs hn hcn hmd nP aQ htl hx g5 F5 M5 vQ F6 M6 g6 q1 q2 GV;refine wp_region_still_tail 10 (by kernel_rfl) (by kernel_rfl) ?_;simp only[jk,jl,jm,jo]
 repeat still_step
 refine wpStill_nil ?_;change wpList _ _ _ _ _ w6.drew;have RJ:Hid (Grow A.L w6 A.L w6.drew):=Grow.drew _ _;generalize w6.drew=UW at*;go_wp2_with (go_at_call 47;refine RI.out.mono ?_;rintro e w7 ⟨rfl,q1,q2⟩;obtain⟨m5,z5⟩:=HV5.out w7 q1;have H7:=U (zA q1 q2);clear q1 q2);obtain⟨g6,F6,M6⟩:=H6.out;obtain⟨q1,q2⟩:=H7.out;obtain⟨_,_,_,CG,hbL,hle⟩:=H4.out;obtain⟨hL,hs,hn,hcn,hmd,nP,aQ,htl,hx⟩:=sW.out;obtain⟨-,p4,GU,ET,J8,GV⟩:=AR.out;have Ka:=RJ.out.trans q2;have F7:=F6.grow Ka;have M7:=M6.grow Ka;have g7:=g6.trans Ka;have Pn:((dL.put (D.place (D.aA+1)) (pack 1 0)).put (1+s) (ai (D.word 0)+1)).ag.getD s none=none:=by show dL.ag.getD s none=none;rw[GU];exact hn
 have hblk:w7.heap[H.heap.size+1]? =some (.cells (dS (A.fu s (H.heap.size+1) H.heap.size) s (eT (D.aA+1) ak (ai (D.word 0)+1))).toArray 131):=by
  rw[show (dS (A.fu s (H.heap.size+1) H.heap.size) s (eT (D.aA+1) ak (ai (D.word 0)+1))).toArray=#[I ((D.aA:Int)+1),I ak,I s,zu ((ai (D.word 0):Int)+1),zu 0,I 0,.slice none 0 0,.map (some H.heap.size),.slice none 0 0,.slice none 0 0,.int .u32 0,.int .i32 0,.int .u32 0,.bool false] by simp[dS,au.fu,jI,iC,eT]];exact F7.2
 obtain⟨rA,gA⟩:=q1.Aa g7 F7.1 M7.1 hs (by omega) hle (by omega) (eT (D.aA+1) ak (ai (D.word 0)+1)) rfl rfl rfl rfl hblk M7.2 Pn;obtain⟨A8,oC⟩:∃ A8:au,A8=A.fu s (H.heap.size+1) H.heap.size:=⟨_,rfl⟩
 rw[<-oC] at rA gA;have e8:A8.Y=A.Y:=by rw[oC];rfl
 have MI:A8.bt s=H.heap.size+1:=by rw[oC];exact aV rfl
 have sO:(((dL.put (D.place (D.aA+1)) (pack 1 0)).put (1+s) (ai (D.word 0)+1)).bq s (eT (D.aA+1) ak (ai (D.word 0)+1))).ag.getD s none=some (eT (D.aA+1) ak (ai (D.word 0)+1)):=by rw[cO (by show s<dL.ag.length;rw[GU,hL.rep.n8];exact hs),aV rfl]
 generalize hw8:World.setCell w7 _ _=w8 at*;have c0:=rA.dZ sO 0 (v:=I ((D.aA:Int)+1)) rfl;have c3:=rA.dZ sO 3 (v:=zu ((ai (D.word 0):Int)+1)) rfl;rw[MI] at c0 c3;have hev:=kW rA.drew s {kind:=1,t:=D.aA+1,n:=ai (D.word 0)+1,op:=⟨0,0,0,ak⟩} 1 ((D.aA:Int)+1) ((ai (D.word 0):Int)+1) 0 0 0 ak 0 0 0 0 none 0 0 rfl (jL.nil _ _) (by show dL.aP.length<_;rw[J8];exact htl);rw[e8] at hev;have HE:=U hev;have H8:Hid (∀ A9 w9,aD A9 ((((dL.put (D.place (D.aA+1)) (pack 1 0)).put (1+s) (ai (D.word 0)+1)).bq s (eT (D.aA+1) ak (ai (D.word 0)+1))).event {kind:=1,t:=D.aA+1,n:=ai (D.word 0)+1,op:=⟨0,0,0,ak⟩}) w9->bL A8 A9 s->w9.cell? ⟨H.heap.size+1,0,none⟩=zt ((D.aA:Int)+1)):=by
  intro A9 w9 r st;have h:=r.dZ (show ((((dL.put (D.place (D.aA+1)) (pack 1 0)).put (1+s) (ai (D.word 0)+1)).bq s (eT (D.aA+1) ak (ai (D.word 0)+1))).event {kind:=1,t:=D.aA+1,n:=ai (D.word 0)+1,op:=⟨0,0,0,ak⟩}).ag.getD s none=some (eT (D.aA+1) ak (ai (D.word 0)+1)) from sO) 0 (v:=I ((D.aA:Int)+1)) rfl;rw[st.bt,MI] at h;exact h
 have RL:=U (zA oC (zA gA (zA ET sO)));clear hL hs hn hcn hmd nP aQ htl hx g6 F6 M6 Ka F7 M7 g7 q1 q2 CG hbL hle p4 GU ET J8 GV Pn hblk rA gA oC e8 MI sO hw8 hev m5 z5;refine wp_region_still_tail 12 (by kernel_rfl) (by kernel_rfl) ?_;simp only[jk,jl,jm,jo]
 repeat still_step
 refine wpStill_nil ?_;change wpList _ _ _ _ _ w8.drew;have RN:Hid (∀ L,Grow L w8 L w8.drew):=fun L=>Grow.drew _ _
 generalize w8.drew=UX at*;go_wp2_with (go_at_call 50;refine HE.out.mono ?_;rintro e w9 ⟨rfl,A9,p1,p2,p3,p4,p5⟩;have t0:=H8.out A9 w9 p1 p3;have HP:=U (zA p1 (zA p2 p3));clear p1 p2 p3 p4 p5)
 go_ret2
 obtain⟨p1,p2,p3⟩:=HP.out;obtain⟨oC,gA,ET,sO⟩:=RL.out;obtain⟨hL,hs,hn,hcn,_⟩:=sW.out;have gg:=(gA.trans (RN.out _)).trans p2;have hcl:∀ q,((((dL.put (D.place (D.aA+1)) (pack 1 0)).put (1+s) (ai (D.word 0)+1)).bq s (eT (D.aA+1) ak (ai (D.word 0)+1))).event {kind:=1,t:=D.aA+1,n:=ai (D.word 0)+1,op:=⟨0,0,0,ak⟩}).calls.getD q none=D.calls.getD q none:=fun q=>by show dL.calls.getD q none=_;rw[ET]
 rw[AR.out.1.symm] at p1 ⊢;refine⟨A9,rfl,Live.of (s:=s) hL (jD ({D.tick with aA:=D.aA+1}:St) 0 (D.word 0) (aO (ai (D.word 0)+1) 0)) p1 gg ⟨p3.bf.trans (by rw[oC];rfl),p3.mp.trans (by rw[oC];rfl),p3.mt.trans (by rw[oC];funext k;show (if k=s then 0 else A.mt k)=A.mt k;by_cases V:k=s;rw[aV V,hL.mt k];rw[aX V]),fun q hq=>by rw[p3.bt,oC];exact aX hq,fun q _=>by rw[p3.bc,oC];rfl,fun q hq=>(p3.bx q hq).trans (by rw[oC];rfl),fun q hq=>(p3.aR q hq).trans (by rw[oC];rfl),fun q _=>by rw[p3.aW,oC];rfl,fun q _=>by rw[p3.bG,oC];rfl⟩ (fun q hq=>?_) (fun c' hcc=>?_) (fun _=>?_),gg,p3.Y.trans (by rw[oC];rfl)⟩
 . rw[AR.out.1];exact hcl q
 . rw[AR.out.1,hcl s,hcn] at hcc;cases hcc
 . rw[p3.bG,oC];exact hL.idle s hs hcn
theorem CJ (hL:Live A D w) (s:Nat) (hs:s<8) (ak:Nat) (hl1:1<=ak) (hl2:ak<=3) (hn:D.ag.getD s none=none) (hcn:D.calls.getD s none=none) (hmd:D.aA<2000) (hx:D.word 0<18446744073709551616) (nP:ai (D.word 0)<281474976710000) (hlim:ai (D.word 0)<D.limit) (hlo:0<aT (D.word 0)∧aT (D.word 0)<=2000) (aQ:D.count<3000000000000000000) (htl:D.aP.length<1000000):
 zk 9 #[R A.Y 0,I s,I ak] w (GR A w (((((({(D.tick.bT (D.word 0)) with aA:=D.aA+1}:St).bP 0 (D.word 0) (aO (ai (D.word 0)+1) 0)).put (D.place (D.aA+1)) (pack 1 0)).put (1+s) (ai (D.word 0)+1)).bq s (eT (D.aA+1) ak (ai (D.word 0)+1))).event {kind:=1,t:=D.aA+1,n:=ai (D.word 0)+1,op:=⟨0,0,0,ak⟩}) (D.aA+1)):=by
 have hR:=hL.rep;generalize CF:({(D.tick.bT (D.word 0)) with aA:=D.aA+1}:St).bP 0 (D.word 0) (aO (ai (D.word 0)+1) 0)=dL;have AR:Hid (({(D.tick.bT (D.word 0)) with aA:=D.aA+1}:St).bP 0 (D.word 0) (aO (ai (D.word 0)+1) 0)=dL∧dL.place (D.aA+1)=D.place (D.aA+1)∧dL.ag=D.ag∧dL.calls=D.calls∧dL.aP=D.aP∧dL.count<3000000000000000010):=by
  refine⟨CF,?_,?_,?_,?_,?_⟩<;>rw[<-CF]
  . rw[xc];exact CE D.tick (D.word 0) (D.aA+1)
  . rw[AP];exact rq D.tick (D.word 0)
  . rw[mH];exact mZ D.tick (D.word 0)
  . rw[AQ];exact ER D.tick (D.word 0)
  . rw[wZ];show (D.tick.bT (D.word 0)).count+1<_;rw[uG];show D.count+1+1+1<_;omega
 clear CF;have b1:(s:Int)<8:=by omega
 have b0:(0:Int)<=(s:Int):=by omega
 have ll:=U (gu s hs);have MH:=U (DT ak hl1 hl2);have e2:=hR.z2;have v5:=hR.eH (5+s) (dV A D hs);rw[show A.tp D s=.pointer none by unfold au.tp;rw[hn]] at v5;have v21:w.cell? (J A.Y 21)=zt (D.aA:Int):=hR.eH 21 rfl;have d1:decide ((2000:Int)<=(D.aA:Int))=false:=by simp;omega
 have d2:((2000:Int)<=(D.aA:Int))=False:=by simp;omega
 have d3:(2000<=D.aA)=False:=by simp;omega
 have l1:decide ((D.limit:Int)<=(ai (D.word 0):Int))=false:=by simp;omega
 have l2:((D.limit:Int)<=(ai (D.word 0):Int))=False:=by simp;omega
 have l3:(D.limit<=ai (D.word 0))=False:=by simp;omega
 have k1:decide ((0:Int)<(aT (D.word 0):Int))=true:=by simp;omega
 have k2:((0:Int)<(aT (D.word 0):Int))=True:=by simp;omega
 have k3:(0<aT (D.word 0))=True:=by simp;omega
 have n1:IntKind.i64.wrap ((D.aA:Int)+1)=(D.aA:Int)+1:=by rw[jH];omega
 have n2:IntKind.u64.wrap ((ai (D.word 0):Int)+1)=(ai (D.word 0):Int)+1:=by rw[IntKind.wrap_u64];omega
 have n3:IntKind.i64.wrap (1+(s:Int))=1+(s:Int):=by rw[jH];omega
 have Rz:=U (oz hR 0 0 rfl (by rw[hR.nw];omega) (by omega));have RA:=U (fun G=>kU (D.word 0) hx G);have H1:Hid (∀ H,aD A D.tick H->Grow A.L w A.L H->zV H A.Y 1 (D.limit:Int)∧zT H A.Y 21 (D.aA:Int)∧H.frozen? (J A.Y 21)=false∧zk 44 #[R A.Y 0,zu (D.word 0:Int)] H (FD A H (D.tick.bT (D.word 0)) (.tuple #[]))):=
  fun H r g=>⟨r.eH 1 rfl,r.eH 21 rfl,r.pK 21,tQ r (D.word 0) hx hlo.2 (by show D.count+1<_;omega)⟩
 have H2 : Hid (∀ H w2, aD A (D.tick.bT (D.word 0)) w2 -> Grow A.L H A.L w2 -> zT w2 A.Y 21 (D.aA : Int) ∧ w2.frozen? (J A.Y 21) = false) := fun H w2 r g => ⟨by
     have h:=r.eH 21 (v:=I ((D.tick.bT (D.word 0)).aA:Int)) rfl
     rw[show (D.tick.bT (D.word 0)).aA=D.aA by unfold St.bT St.bP;split<;>rfl] at h
     exact h,r.pK 21⟩
 have hmm:∀ w,(Instr.makeMap 116 none).run Tryz.prog w=.ok (.map (some w.heap.size)) (w.alloc (.map #[] 0)):=fun w=>rfl
 have sW:=U (zA hL (zA hs (zA hn (zA hcn (zA hmd (zA nP (zA aQ (zA htl hx))))))));clear hL hs hl1 hl2 hn hcn hmd hx nP hlim hlo aQ htl;clear hR;go_enter Tryz.func9,Tryz.ntmps9;go_wp2_with (first|(go_at_call 40;refine (ll.out _).mono ?_;rintro e G ⟨rfl,rfl⟩)|(go_at_call 41;refine (MH.out _).mono ?_;rintro e G ⟨rfl,rfl⟩)|(go_at_call 42;refine Rz.out.mono ?_;rintro e H ⟨rfl,q1,q2⟩;obtain⟨y1,y2,y3,Lh⟩:=H1.out H q1 q2;have HH:=U Lh;clear Lh;have RB:=U (zA q1 q2);clear q1 q2)|(go_at_call 43;refine (RA.out _).mono ?_;rintro e G ⟨rfl,rfl⟩)|(go_at_call 44;refine HH.out.mono ?_;rintro e w2 ⟨rfl,q1,q2⟩;obtain⟨y4,y5⟩:=H2.out H w2 q1 q2;have Gu:=U (zA q1 q2);clear q1 q2));obtain⟨hL,hs,hn,hcn,hmd,nP,aQ,htl,hx⟩:=sW.out;obtain⟨r1,g12⟩:=Gu.out;have g1:=RB.out.2.trans g12;clear g12;obtain⟨rm,gm⟩:=r1.Dp (D.aA+1);rw[show ((D.aA+1:Nat):Int)=(D.aA:Int)+1 from rfl] at rm gm;have hz3:(w2.setCell (J A.Y 21) (I ((D.aA:Int)+1))).heap.size=w2.heap.size:=by simp[World.setCell]
 generalize hw3:w2.setCell (J A.Y 21) (I ((D.aA:Int)+1))=w3 at*;generalize hw4:(w3.alloc (.map #[] 0)).alloc _=w4;have r4:aD A ({(D.tick.bT (D.word 0)) with aA:=D.aA+1}:St) w4:=by rw[<-hw4];exact (rm.alloc _).alloc _
 have Pk:Grow A.L w3 A.L w4:=by rw[<-hw4];exact (Grow.alloc _ _ _).trans (Grow.alloc _ _ _)
 have g4:Grow A.L w A.L w4:=(g1.trans gm).trans Pk;have Pm:w4.heap[w2.heap.size]? =some (.map #[] 0):=by rw[<-hw4,<-hz3];exact (Below.heap_alloc _ _ _ (by simp)).trans (heap_alloc_new w3 _)
 have hb4:w4.heap[w2.heap.size+1]? =some (.cells #[I ((D.aA:Int)+1),I ak,I s,zu ((ai (D.word 0):Int)+1),zu 0,I 0,.slice none 0 0,.map (some w2.heap.size),.slice none 0 0,.slice none 0 0,.int .u32 0,.int .i32 0,.int .u32 0,.bool false] 131):=by rw[<-hw4,<-hz3];exact heap_alloc2_new w3 _ _
 have CG:A.L w2.heap.size=none:=by rw[<-hz3];exact rm.mem.fresh _ (zr _)
 have hbL:A.L (w2.heap.size+1)=none:=by rw[<-hz3];exact rm.mem.fresh _ (by omega)
 have hle:w.heap.size<=w2.heap.size:=g1.size;have F4:Fix A.L w4 (w2.heap.size+1) (.cells #[I ((D.aA:Int)+1),I ak,I s,zu ((ai (D.word 0):Int)+1),zu 0,I 0,.slice none 0 0,.map (some w2.heap.size),.slice none 0 0,.slice none 0 0,.int .u32 0,.int .i32 0,.int .u32 0,.bool false] 131):=⟨hbL,hb4⟩
 have M4:Fix A.L w4 w2.heap.size (.map #[] 0):=⟨CG,Pm⟩
 have a2:=r4.eH 2 (v:=R A.ba 0) rfl;have a3:=F4.cell 3 (v:=zu ((ai (D.word 0):Int)+1)) rfl;have V:zk 46 #[zu ((ai (D.word 0):Int)+1),I 0] w4.drew fun e G=>e=.returned (zu ((aO (ai (D.word 0)+1) 0:Nat):Int))∧G=w4.drew:=flip (mE (ai (D.word 0)+1) 0 (by omega) (by omega) w4.drew)
 have HC:=U V;have NJ:=U (rX r4.drew 0 (D.word 0) (aO (ai (D.word 0)+1) 0) 0 rfl (by rw[r4.nw];omega) (by show (D.tick.bT (D.word 0)).count<_;have:=uG D.tick (D.word 0);have e:D.tick.count=D.count+1:=rfl;omega));have H4:=U (zA g4 (zA F4 (zA M4 (zA CG (zA hbL hle)))));clear hL hs hn hcn hmd nP aQ htl hx r1 g1 rm gm hz3 hw3 hw4 r4 Pk g4 Pm hb4 CG hbL hle F4 M4 V;refine wp_region_still_tail 10 (by kernel_rfl) (by kernel_rfl) ?_;simp only[jk,jl,jm,jo]
 repeat still_step
 still_call HC.out
 refine wpStill_nil ?_;change wpList _ _ _ _ _ w4.drew;have RD:Hid (Grow A.L w4 A.L w4.drew):=Grow.drew _ _;generalize w4.drew=wd4 at*;go_wp2_with (go_at_call 45;refine NJ.out.mono ?_;rintro e w5 ⟨rfl,q1,q2⟩);obtain⟨g4,F4,M4,CG,hbL,hle⟩:=H4.out;obtain⟨hL,hs,hn,hcn,hmd,nP,aQ,htl,hx⟩:=sW.out;rw[AR.out.1] at q1;obtain⟨-,p4,GU,ET,J8,GV⟩:=AR.out;have J9:=RD.out.trans q2;have F5:=F4.grow J9;have M5:=M4.grow J9;have g5:=g4.trans J9;have a2:=q1.eH 2 (v:=R A.ba 0) rfl;have a0:=F5.cell 0 (v:=I ((D.aA:Int)+1)) rfl;have hpl:zk 48 #[R A.Y 0,I ((D.aA:Int)+1)] w5.drew fun e G=>e=.returned (I ((D.place (D.aA+1):Nat):Int))∧G=w5.drew:=by
  have h:=fB q1.drew (D.aA+1) (by omega);rw[p4] at h;exact h
 have RF:=U hpl;have RG:=U (jM 1 0 1 0 rfl rfl (by omega) (by omega) w5.drew);have HST:=U (fC q1.drew (D.place (D.aA+1)) (pack 1 0) (by rw[q1.nw];have:=q1.sl;have:=congrArg (fun x=>x) p4;unfold St.place at p4 ⊢;omega) (by omega));have H5:=U (zA g5 (zA F5 (zA M5 q1)));clear hL hs hn hcn hmd nP aQ htl hx g4 F4 M4 CG hbL hle J9 F5 M5 g5 q1 q2 hpl p4 GU ET J8 GV;refine wp_region_still_tail 11 (by kernel_rfl) (by kernel_rfl) ?_;simp only[jk,jl,jm,jo]
 repeat still_step
 still_call RF.out
 still_call RG.out
 refine wpStill_nil ?_;change wpList _ _ _ _ _ w5.drew;have RH:Hid (Grow A.L w5 A.L w5.drew):=Grow.drew _ _;generalize w5.drew=UU at*;go_wp2_with (go_at_call 47;refine HST.out.mono ?_;rintro e w6 ⟨rfl,q1,q2⟩);obtain⟨g5,F5,M5,_⟩:=H5.out;obtain⟨hL,hs,hn,hcn,hmd,nP,aQ,htl,hx⟩:=sW.out;have GV:=AR.out.2.2.2.2.2;have vQ:=RH.out.trans q2;have F6:=F5.grow vQ;have M6:=M5.grow vQ;have g6:=g5.trans vQ;have a2:=q1.eH 2 (v:=R A.ba 0) rfl;have a3:=F6.cell 3 (v:=zu ((ai (D.word 0):Int)+1)) rfl;have RI:=U (yz q1.drew (1+s) (ai (D.word 0)+1) (1+(s:Int)) ((ai (D.word 0):Int)+1) (by omega) (by omega) (by rw[q1.nw];omega) (by show dL.count+1<_;omega));have H6:=U (zA g6 (zA F6 M6));have HV5:Hid (∀ w7,aD A ((dL.put (D.place (D.aA+1)) (pack 1 0)).put (1+s) (ai (D.word 0)+1)) w7->w7.cell? (J A.Y (5+s))=some (.pointer none)∧w7.frozen? (J A.Y (5+s))=false):=by
  intro w7 r;have h:=r.eH (5+s) (dV A _ hs);rw[show A.tp ((dL.put (D.place (D.aA+1)) (pack 1 0)).put (1+s) (ai (D.word 0)+1)) s=.pointer none by unfold au.tp;rw[show ((dL.put (D.place (D.aA+1)) (pack 1 0)).put (1+s) (ai (D.word 0)+1)).ag.getD s none=none by show dL.ag.getD s none=none;rw[AR.out.2.2.1];exact hn]] at h;exact⟨h,r.pK _⟩
 clear hL hs hn hcn hmd nP aQ htl hx g5 F5 M5 vQ F6 M6 g6 q1 q2 GV;refine wp_region_still_tail 10 (by kernel_rfl) (by kernel_rfl) ?_;simp only[jk,jl,jm,jo]
 repeat still_step
 refine wpStill_nil ?_;change wpList _ _ _ _ _ w6.drew;have RJ:Hid (Grow A.L w6 A.L w6.drew):=Grow.drew _ _;generalize w6.drew=UW at*;go_wp2_with (go_at_call 47;refine RI.out.mono ?_;rintro e w7 ⟨rfl,q1,q2⟩;obtain⟨m5,z5⟩:=HV5.out w7 q1;have H7:=U (zA q1 q2);clear q1 q2);obtain⟨g6,F6,M6⟩:=H6.out;obtain⟨q1,q2⟩:=H7.out;obtain⟨_,_,_,CG,hbL,hle⟩:=H4.out;obtain⟨hL,hs,hn,hcn,hmd,nP,aQ,htl,hx⟩:=sW.out;obtain⟨-,p4,GU,ET,J8,GV⟩:=AR.out;have Ka:=RJ.out.trans q2;have F7:=F6.grow Ka;have M7:=M6.grow Ka;have g7:=g6.trans Ka;have Pn:((dL.put (D.place (D.aA+1)) (pack 1 0)).put (1+s) (ai (D.word 0)+1)).ag.getD s none=none:=by show dL.ag.getD s none=none;rw[GU];exact hn
 have hblk:w7.heap[w2.heap.size+1]? =some (.cells (dS (A.fu s (w2.heap.size+1) w2.heap.size) s (eT (D.aA+1) ak (ai (D.word 0)+1))).toArray 131):=by
  rw[show (dS (A.fu s (w2.heap.size+1) w2.heap.size) s (eT (D.aA+1) ak (ai (D.word 0)+1))).toArray=#[I ((D.aA:Int)+1),I ak,I s,zu ((ai (D.word 0):Int)+1),zu 0,I 0,.slice none 0 0,.map (some w2.heap.size),.slice none 0 0,.slice none 0 0,.int .u32 0,.int .i32 0,.int .u32 0,.bool false] by simp[dS,au.fu,jI,iC,eT]];exact F7.2
 obtain⟨rA,gA⟩:=q1.Aa g7 F7.1 M7.1 hs (by omega) hle (by omega) (eT (D.aA+1) ak (ai (D.word 0)+1)) rfl rfl rfl rfl hblk M7.2 Pn;obtain⟨A8,oC⟩:∃ A8:au,A8=A.fu s (w2.heap.size+1) w2.heap.size:=⟨_,rfl⟩
 rw[<-oC] at rA gA;have e8:A8.Y=A.Y:=by rw[oC];rfl
 have MI:A8.bt s=w2.heap.size+1:=by rw[oC];exact aV rfl
 have sO:(((dL.put (D.place (D.aA+1)) (pack 1 0)).put (1+s) (ai (D.word 0)+1)).bq s (eT (D.aA+1) ak (ai (D.word 0)+1))).ag.getD s none=some (eT (D.aA+1) ak (ai (D.word 0)+1)):=by rw[cO (by show s<dL.ag.length;rw[GU,hL.rep.n8];exact hs),aV rfl]
 generalize hw8:World.setCell w7 _ _=w8 at*;have c0:=rA.dZ sO 0 (v:=I ((D.aA:Int)+1)) rfl;have c3:=rA.dZ sO 3 (v:=zu ((ai (D.word 0):Int)+1)) rfl;rw[MI] at c0 c3;have hev:=kW rA.drew s {kind:=1,t:=D.aA+1,n:=ai (D.word 0)+1,op:=⟨0,0,0,ak⟩} 1 ((D.aA:Int)+1) ((ai (D.word 0):Int)+1) 0 0 0 ak 0 0 0 0 none 0 0 rfl (jL.nil _ _) (by show dL.aP.length<_;rw[J8];exact htl);rw[e8] at hev;have HE:=U hev;have H8:Hid (∀ A9 w9,aD A9 ((((dL.put (D.place (D.aA+1)) (pack 1 0)).put (1+s) (ai (D.word 0)+1)).bq s (eT (D.aA+1) ak (ai (D.word 0)+1))).event {kind:=1,t:=D.aA+1,n:=ai (D.word 0)+1,op:=⟨0,0,0,ak⟩}) w9->bL A8 A9 s->w9.cell? ⟨w2.heap.size+1,0,none⟩=zt ((D.aA:Int)+1)):=by
  intro A9 w9 r st;have h:=r.dZ (show ((((dL.put (D.place (D.aA+1)) (pack 1 0)).put (1+s) (ai (D.word 0)+1)).bq s (eT (D.aA+1) ak (ai (D.word 0)+1))).event {kind:=1,t:=D.aA+1,n:=ai (D.word 0)+1,op:=⟨0,0,0,ak⟩}).ag.getD s none=some (eT (D.aA+1) ak (ai (D.word 0)+1)) from sO) 0 (v:=I ((D.aA:Int)+1)) rfl;rw[st.bt,MI] at h;exact h
 have RL:=U (zA oC (zA gA (zA ET sO)));clear hL hs hn hcn hmd nP aQ htl hx g6 F6 M6 Ka F7 M7 g7 q1 q2 CG hbL hle p4 GU ET J8 GV Pn hblk rA gA oC e8 MI sO hw8 hev m5 z5;refine wp_region_still_tail 12 (by kernel_rfl) (by kernel_rfl) ?_;simp only[jk,jl,jm,jo]
 repeat still_step
 refine wpStill_nil ?_;change wpList _ _ _ _ _ w8.drew;have RN:Hid (∀ L,Grow L w8 L w8.drew):=fun L=>Grow.drew _ _
 generalize w8.drew=UX at*;go_wp2_with (go_at_call 50;refine HE.out.mono ?_;rintro e w9 ⟨rfl,A9,p1,p2,p3,p4,p5⟩;have t0:=H8.out A9 w9 p1 p3;have HP:=U (zA p1 (zA p2 p3));clear p1 p2 p3 p4 p5)
 go_ret2
 obtain⟨p1,p2,p3⟩:=HP.out;obtain⟨oC,gA,ET,sO⟩:=RL.out;obtain⟨hL,hs,hn,hcn,_⟩:=sW.out;have gg:=(gA.trans (RN.out _)).trans p2;have hcl:∀ q,((((dL.put (D.place (D.aA+1)) (pack 1 0)).put (1+s) (ai (D.word 0)+1)).bq s (eT (D.aA+1) ak (ai (D.word 0)+1))).event {kind:=1,t:=D.aA+1,n:=ai (D.word 0)+1,op:=⟨0,0,0,ak⟩}).calls.getD q none=D.calls.getD q none:=fun q=>by show dL.calls.getD q none=_;rw[ET]
 rw[AR.out.1.symm] at p1 ⊢;refine⟨A9,rfl,Live.of (s:=s) hL ⟨(jD ({D.tick.bT (D.word 0) with aA:=D.aA+1}:St) 0 (D.word 0) (aO (ai (D.word 0)+1) 0)).1.trans (sV D.tick (D.word 0)).1,(jD ({D.tick.bT (D.word 0) with aA:=D.aA+1}:St) 0 (D.word 0) (aO (ai (D.word 0)+1) 0)).2.trans (sV D.tick (D.word 0)).2⟩ p1 gg ⟨p3.bf.trans (by rw[oC];rfl),p3.mp.trans (by rw[oC];rfl),p3.mt.trans (by rw[oC];funext k;show (if k=s then 0 else A.mt k)=A.mt k;by_cases V:k=s;rw[aV V,hL.mt k];rw[aX V]),fun q hq=>by rw[p3.bt,oC];exact aX hq,fun q _=>by rw[p3.bc,oC];rfl,fun q hq=>(p3.bx q hq).trans (by rw[oC];rfl),fun q hq=>(p3.aR q hq).trans (by rw[oC];rfl),fun q _=>by rw[p3.aW,oC];rfl,fun q _=>by rw[p3.bG,oC];rfl⟩ (fun q hq=>?_) (fun c' hcc=>?_) (fun _=>?_),gg,p3.Y.trans (by rw[oC];rfl)⟩
 . rw[AR.out.1];exact hcl q
 . rw[AR.out.1,hcl s,hcn] at hcc;cases hcc
 . rw[p3.bG,oC];exact hL.idle s hs hcn
def lW (D:St) (s:Nat):Bool:=match (D.c s).op.kind with
 |6=>true
 |7=>true
 |1=>match (D.t s).cell (D.c s).op.E with|none=>true|some x=>!x.there||vl D x.own
 |5=>decide ((D.c s).op.E<=63)&&decide ((D.c s).op.hi<=63)&&rz D (D.t s)&&decide ((D.c s).r.aB.length<90000)
 |2=>oQ D s
 |3=>oQ D s
 |4=>oQ D s
 |_=>false
 where oQ (D:St) (s:Nat):Bool:=match (D.t s).cell (D.c s).op.E with|none=>true|some _=>decide (1<=(D.t s).id)&&decide ((D.t s).id<=65535)&&lq D
theorem DV {D:St} {s:Nat} {t:bB} (ht:D.ag.getD s none=some t) {c:dF} (hc:D.calls.getD s none=some c) (h:lW D s=true):yD D s:=by
 intro A w hR hmp;have et:=bQ ht;have ec:=aU hc;unfold lW lW.oQ at h;rw[et,ec] at h;have hret:∀ r,∀ e G,aZ A w s r e G->∃ v,e=.returned v:=fun r e G ⟨_,v,hv,_⟩=>⟨v,hv⟩
 refine Ak hR s c hc _ (fun V=>?_) (fun V=>?_) (fun V=>?_) (fun V=>?_) (fun k1 k5 k6 k7=>?_) (hret _)
 . rw[V] at h
   simp only at h
   cases hx:t.cell c.op.E with
   |none=>
    have e:D.first s=(D,.start ⟨c.op.E,t.aG,.get⟩):=by unfold St.first;rw[ec,et];simp only[V,hx]
    rw[e];exact get_none hR s t ht c hc hx
   |some x=>
    rw[hx] at h;have e:D.first s=(D,if x.there then .fin {value:=D.valueOf x.own} else .fin {e:=11}):=by unfold St.first;rw[ec,et];simp only[V,hx]
    rw[e]
    cases hth:x.there with
    |true=>
     simp only[hth,Bool.not_true,Bool.false_or] at h;rw[aV rfl];exact EL hR s t ht c hc x hx hth (iD h)
    |false=>
     rw[aX (by decide)];exact GD hR s t ht c hc x hx hth
 . rw[V] at h
   simp only[gQ,zd] at h;obtain⟨⟨⟨h1,h2⟩,h3⟩,h4⟩:=h;have e:D.first s=D.scan s c.op.E:=by unfold St.first;rw[ec];simp only[V]
   rw[e];exact uD hR s t ht c hc c.op.E (by omega) h2 (uF h3) (by omega)
 . have e:D.first s=(D,.draw):=by unfold St.first;rw[ec];simp only[V]
   rw[e];exact zL hR s
 . have e:D.first s=(D,.abort 0 1):=by unfold St.first;rw[ec];simp only[V]
   rw[e];exact iP hR s 0 1
 . have hx:(match t.cell c.op.E with|none=>true|some _=>decide (1<=t.id)&&decide (t.id<=65535)&&lq D)=true∧(c.op.kind=2∨c.op.kind=3∨c.op.kind=4):=by
    split at h
    . omega
    . omega
    . omega
    . omega
    . rename_i V;exact⟨h,.inl V⟩
    . rename_i V;exact⟨h,.inr (.inl V)⟩
    . rename_i V;exact⟨h,.inr (.inr V)⟩
    . cases h
   obtain⟨hx1,hkk⟩:=hx
   cases hx:t.cell c.op.E with
   |none=>
    have e:D.first s=(D,.start ⟨c.op.E,t.aG,.change⟩):=by
     rcases hkk with V|V|V<;>(unfold St.first;rw[ec,et];simp only[V,hx])
    rw[e];exact Aj hR s t ht c hc hx
   |some x=>
    rw[hx] at hx1;simp only[gQ,zd] at hx1;have e:D.first s=pU D s t x c.op.kind:=by
     rcases hkk with V|V|V<;>(unfold St.first pU;rw[ec,et];simp only[V,hx])
    rw[e];exact Az hR s t ht c hc hmp x hx hx1.1.1 hx1.1.2 (jS hR.nt hx1.2)
def iW (D az:St) (s:Nat):Bool:=decide (D.calls.length=8)&&decide (az.calls.length=8)&&(List.range 8).all fun q=>q==s||decide (az.calls.getD q none=D.calls.getD q none)
theorem qG {D az:St} {s:Nat} (h:iW D az s=true):∀ q,q≠s->az.calls.getD q none=D.calls.getD q none:=by
 intro q hq;unfold iW at h;simp only[gQ,zd,List.all_eq_true,List.mem_range,oL,beq_iff_eq] at h
 by_cases h8:q<8
 . exact (h.2 q h8).resolve_left hq
 . simp[mM,FC (show az.calls.length<=q by omega),FC (show D.calls.length<=q by omega)]
def jT (D:St) (s:Nat) (az:St) (ok:Option K) (c2:dF):Option (St×Nat×ic):=
 match ok with
 |some k'=>if c2.over=false then some ({az.aF s {c2 with k:=some k'} with aL:=az.aL+(az.count - D.count)},if c2.waits then 2 else 1,{}) else none
 |none=>
  if c2.waits=false∧c2.over=true∧c2.r.aB.length<=1000000 then
   if c2.r.over=0 then
    match az.ag.getD s none with
    |some t2=>if az.aP.length<1000000 then some (({az.aF s {c2 with k:=none} with aL:=az.aL+(az.count - D.count),calls:=(az.aF s {c2 with k:=none}).calls.set s none}:St).event {kind:=2,t:=t2.id,op:=c2.op,res:=c2.r},3,c2.r) else none
    |none=>none
   else if c2.r.aB=[] then some ({az.aF s {c2 with k:=none} with aL:=az.aL+(az.count - D.count),calls:=(az.aF s {c2 with k:=none}).calls.set s none,ag:=az.ag.set s none},3,c2.r) else none
  else none
def ja (D:St) (s:Nat):Option (St×Nat×ic):=
 match D.ag.getD s none,D.calls.getD s none with
 |some t,some c=>
  match c.k with
  |some k=>
   match (D.aF s {c with waits:=false}).run s k with
   |(az,ok)=>
    match az.calls.getD s none with
    |some c2=>
     if MF (D.aF s {c with waits:=false}) s k=true∧iW D az s=true∧D.count<=az.count∧az.count - D.count<1000000∧az.aL<1000000000000000000∧D.count<3000000000000000000 then jT D s az ok c2 else none
    |none=>none
  |none=>none
 |_,_=>none
theorem CK (hL:Live A D w) {s:Nat} (hs:s<8) {bE:St} {kd:Nat} {r:ic} (h:ja D s=some (bE,kd,r)):
 zk 34 #[R A.Y 0,I s] w (Stepped A w bE (kd:Int) r):=by
 unfold ja at h
 split at h
 . rename_i t c ht hc
   split at h
   . rename_i k V
     split at h
     rename_i az ok aN
     split at h
     . rename_i c2 hc2
       split at h
       . rename_i hh
         obtain⟨h1,h2,h3,h4,h5,h6⟩:=hh;have hc1:(D.aF s {c with waits:=false}).calls.getD s none=some {c with waits:=false}:=by rw[bS (bH hc),aV rfl]
         have RO:=MG hs (D:=D.aF s {c with waits:=false}) (t:=t) ht hc1 k h1;have hdl:az.count=D.count+(az.count - D.count):=by omega
         have hcq:=qG h2;unfold jT at h
         cases ok with
         |some k'=>
          simp only at h
          split at h
          . rename_i hov
            simp only[Option.some.injEq,gZ] at h;obtain⟨rfl,rfl,rfl⟩:=h;have:=JG hL s hs t ht c hc k V h6 az _ aN RO c2 hc2 _ hdl h4 h5 hcq k' rfl hov
            cases hw:c2.waits<;>(rw[hw] at this;simpa [hw] using this)
          . cases h
         |none=>
          simp only at h
          split at h
          . rename_i hh
            obtain⟨hw,hov,hpr⟩:=hh
            split at h
            . rename_i hro
              split at h
              . rename_i t2 ht2
                split at h
                . rename_i htl
                  simp only[Option.some.injEq,gZ] at h;obtain⟨rfl,rfl,rfl⟩:=h;exact Cv hL s hs t ht c hc k V h6 az _ aN RO c2 hc2 _ hdl h4 h5 hcq t2 ht2 htl rfl hw hov hpr hro
                . cases h
              . cases h
            . rename_i hro
              split at h
              . rename_i hpe
                simp only[Option.some.injEq,gZ] at h;obtain⟨rfl,rfl,rfl⟩:=h;exact oO hL s hs t ht c hc k V h6 az _ aN RO c2 hc2 _ hdl h4 h5 hcq rfl hw hov hpe hro
              . cases h
          . cases h
       . cases h
     . cases h
   . cases h
 . cases h
def qH (n:Int):Int:=min (max n 0) 1000
def sZ (n c:Int):Int:=wrap64 (wrap64 (400*(qH n+1)*(qH c+64))*(qH n+4))
theorem xe {n:Int} (h:n<0):qH n=0:=by unfold qH;omega
theorem xg {n:Int} (h:0<=n) (h2:(if n<0 then 0 else n)<=1000):qH n=n:=by rw[aX (by omega)] at h2;unfold qH;omega
theorem uH {n:Int} (h:0<=n) (h2:1000<(if n<0 then 0 else n)):qH n=1000:=by rw[aX (by omega)] at h2;unfold qH;omega
theorem xh (n c:Int) (w:World):zk 51 #[I n,I c] w fun e G=>e=.returned (I (sZ n c))∧w=G:=by
 go_enter Tryz.func51,Tryz.ntmps51;go_wp2
 all_goals (go_ret;refine⟨?_,rfl⟩;unfold sZ;first|(rw[xe (n:=n) (by assumption)])|(rw[xg (n:=n) (by assumption) (by assumption)])|(rw[uH (n:=n) (by assumption) (by assumption)]))
 all_goals (first|(rw[xe (n:=c) (by assumption)];rfl)|(rw[xg (n:=c) (by assumption) (by assumption)];rfl)|(rw[uH (n:=c) (by assumption) (by assumption)];rfl))
theorem EU (w:World):zk 51 #[I 8,I 256] w fun e G=>e=.returned (I 13824000)∧w=G:=by
 have h:=xh 8 256 w;rw[show sZ 8 256=13824000 by decide +kernel] at h;exact h
theorem Live.world {A:au} {D:St} {w G:World} (hL:Live A D w) (r:aD A D G) (g:Grow A.L w A.L G):Live A D G:=
 ⟨r,hL.mp,hL.mt,fun s h c hc=>let ⟨e1,k,e2,e3⟩:=hL.call s h c hc;⟨e1,k,e2,e3.grow g⟩,hL.idle,hL.sx.keep rfl ⟨rfl,rfl⟩ g⟩
theorem Live.alloc (hL:Live A D w) (o:Obj):Live A D (w.alloc o):=hL.world (hL.rep.alloc _) (Grow.alloc _ _ _)
theorem Live.below {A:au} {D:St} {w G:World} (hL:Live A D w) (h:Below w.heap.size w G):Live A D G:=hL.world (hL.rep.below h) (Grow.below h)
theorem Live.lg (hL:Live A D w) (o:Obj):Live (A.tmp w.heap.size) D (w.alloc o):=
 let ⟨r,g,_,_⟩:=hL.rep.lg o
 ⟨r,hL.mp,hL.mt,fun s h c hc=>let ⟨e1,k,e2,e3⟩:=hL.call s h c hc;⟨e1,k,e2,(show lL (kp A D s) (A.tmp w.heap.size).L (w.alloc o) (A.aW s) k from e3.grow g)⟩,hL.idle,hL.sx.keep rfl ⟨rfl,rfl⟩ g⟩
theorem Live.but {A:au} {D:St} {w G:World} {b:Nat} (hL:Live A D w) (hl:A.L b=some .tmp) (h:But b w G):Live A D G:=
 ⟨hL.rep.but hl h,hL.mp,hL.mt,fun s hs c hc=>let ⟨e1,k,e2,e3⟩:=hL.call s hs c hc;⟨e1,k,e2,e3.soft (h.soft hl)⟩,hL.idle,hL.sx.soft rfl (h.soft hl)⟩
def lC:Nat->St->Nat->Option (St×ic×Nat)
 |0,_,_=>none
 |n+1,D,s=>match ja D s with
  |some (bE,kd,r)=>if kd=3 then some (bE,r,0) else if kd=2 then some (bE,{},18) else if kd=1 then lC n bE s else none
  |none=>none
def DW (D:St) (s:Nat) (o:En.Op) (aH:St) (err:Nat):Prop:=∀ A w,Live A D w->zk 33 #[R A.Y 0,I s,.agg #[I o.kind,I o.E,I o.hi,I o.value]] w (Ct A w aH (err:Int))
def Done (A:au) (w:World) (bE:St) (r:ic) (err:Nat):Ending->World->Prop:=fun e G=>∃ A' vp,e=.returned (.tuple #[.agg #[I r.e,I r.value,vp,I r.over,I r.ay],I err])∧dQ A'.L G 2 vp (bI r.aB)∧Live A' bE G∧Grow A.L w A'.L G∧A'.Y=A.Y
theorem jU {L:cZ} {w:World} {size:Nat} {v:Value} {xs:List Value} (h:dQ L w size v xs):∃ a n cap,v=.slice a n cap:=let ⟨a,n,cap,e,_⟩:=h;⟨a,n,cap,e⟩
theorem GX (hL:Live A D w) (s:Nat) (hs:s<8) (o:En.Op) (aH:St) (HI:DW D s o aH 0) (zo:Nat) (hF:zo<=13824000) (az:St) (r:ic) (err:Nat) (aN:lC zo aH s=some (az,r,err)):
 zk 11 #[R A.Y 0,I s,.agg #[I o.kind,I o.E,I o.hi,I o.value]] w (Done A w az r err):=by
 obtain⟨w0,hw0⟩:∃ w0,w0=w.alloc (.cells #[I o.kind,I o.E,I o.hi,I o.value] 27):=⟨_,rfl⟩
 have hL0:Live A D w0:=by rw[hw0];exact hL.alloc _
 have g0:Grow A.L w A.L w0:=by rw[hw0];exact Grow.alloc _ _ _
 have hz:w0.heap.size=w.heap.size+1:=by rw[hw0];simp
 have hL1:=hL0.lg (.cells #[I 0,I 0,.slice none 0 0,I 0,I 0] 46);obtain⟨_,g1,t1,t2⟩:=hL0.rep.lg (.cells #[I 0,I 0,.slice none 0 0,I 0,I 0] 46);have hI:=HI _ _ hL1;have c0:(w0.alloc (.cells #[I 0,I 0,.slice none 0 0,I 0,I 0] 46)).heap[w.heap.size]? =some (.cells #[I o.kind,I o.E,I o.hi,I o.value] 27):=by
  have f:=(dO (L:=A.L) hL.rep.mem.fresh (.cells #[I o.kind,I o.E,I o.hi,I o.value] 27) rfl)
  rw[<-hw0] at f;exact (f.grow g1).2
 have HW:=U (zA (g0.trans g1) (zA t1 t2));have uI:=U hI;have HR:=U (zA aN (zA hF hs));subst hw0;rw[hz] at*;clear HI hI aN hF hs hL0 hL1 g0 g1 t1 t2 hz hL;go_enter Tryz.func11,Tryz.ntmps11;go_wp2_with (first|(go_at_call 33;refine uI.out.mono ?_;rintro e H ⟨A1,rfl,q1,q2,q3⟩;have H1:=U (zA q1 (zA q2 q3));clear q1 q2 q3)|(go_at_call 51;refine (EU _).mono ?_;rintro e G ⟨rfl,rfl⟩))
 go_loopw [20] (fun i wr=>∃ (j n:Nat) (RP:St) (A':au),i=I j∧lC n RP s=some (az,r,err)∧j+n<=13824000∧Live A' RP wr∧Grow A.L w A'.L wr∧A'.Y=A.Y∧A'.L (w.heap.size+1)=some .tmp∧wr.heap[w.heap.size+1]? =some (.cells #[I 0,I 0,.slice none 0 0,I 0,I 0] 46)) (fun i _=>13824000 - (intOf i).toNat)
 case atStart=>
  obtain⟨q1,q2,q3⟩:=H1.out;obtain⟨gw,t1,t2⟩:=HW.out;obtain⟨t3,t4⟩:=bX ⟨t1,t2⟩ q2;exact⟨0,zo,aH,A1,rfl,HR.out.1,by have:=HR.out.2.1;omega,q1,gw.trans q2,q3,t3,t4⟩
 case round=>
  obtain⟨j,n,RP,A',rfl,aN,hj,hL,g,eb,t1,t2⟩:=hrel
  cases n with
  |zero=>cases aN
  |succ n=>
  unfold lC at aN
  split at aN
  . rename_i bE kd r' hst
    have hcs:=CK hL HR.out.2.2 hst;rw[eb] at hcs;have b1:(j:Int)<13824000:=by omega
    have n1:IntKind.i64.wrap ((j:Int)+1)=(j:Int)+1:=by rw[jH];omega
    have HQ:=U (zA aN (zA hj (zA g (zA eb (zA t1 t2)))));clear aN hj hL g eb t1 t2 hst
    by_cases hk3:kd=3
    . subst hk3
      have HC:=U hcs;clear hcs;go_wp2_with (first|(go_at_call 34;refine HC.out.mono ?_;rintro e w2 ⟨A2,vp,rfl,q1,q2,q3,q4⟩;obtain⟨va,vn,vc,rfl⟩:=jU q1;obtain⟨_,_,gq,eq,t1,t2⟩:=HQ.out;obtain⟨t3,t4⟩:=bX ⟨t1,t2⟩ q3;have vR:=U (ik (bX ⟨t3,t4⟩ (Grow.alloc A2.L w2 (.cells #[I 3,I r'.e,I r'.value,.slice va vn vc,I r'.over,I r'.ay] 81))).2);have H2:=U (zA q1 (zA q2 (zA (gq.trans q3) (zA (q4.trans eq) (zA t3 t4)))));clear q1 q2 q3 q4 gq eq t1 t2 t3 t4)|(refine wpList_store_mid rfl 46 (.tmp 6) (.tmp 33) rfl (w.heap.size+1) 0 #[I r'.e,I r'.value,.slice va vn vc,I r'.over,I r'.ay] rfl rfl vR.out (by kernel_rfl) (by simp[Value.oneCell']) ?_;generalize hws:World.setCells _ _ _ _=ws));obtain⟨aN,_⟩:=HQ.out;obtain⟨q1,q2,gq,eq,t3,t4⟩:=H2.out;have ga:=Grow.alloc A2.L w2 (.cells #[I 3,I r'.e,I r'.value,.slice va vn vc,I r'.over,I r'.ay] 81);obtain⟨t5,t6⟩:=bX ⟨t3,t4⟩ ga;have hL3:=q2.alloc (.cells #[I 3,I r'.e,I r'.value,.slice va vn vc,I r'.over,I r'.ay] 81);have gg:=gq.trans ga;have q1':=q1.grow ga;generalize w2.alloc _=w3 at*;have dW:=But.setCells (w.heap.size+1) [I r'.e,I r'.value,.slice va vn vc,I r'.over,I r'.ay] 0 w3;have hfin:=lh t6 (I r'.e) (I r'.value) (.slice va vn vc) (I r'.over) (I r'.ay);rw[show w3.setCells (w.heap.size+1) 0 [I r'.e,I r'.value,.slice va vn vc,I r'.over,I r'.ay]=ws from hws] at dW hfin;refine bodyPost_ret (dP rfl _ _ (w.heap.size+1) 46 #[I r'.e,I r'.value,.slice va vn vc,I r'.over,I r'.ay] _ _ rfl hfin Tryz.underlying46 rfl (by kernel_rfl)) rfl ?_;replace aN:some (bE,r',0)=some (az,r,err):=aN;obtain⟨rfl,rfl,rfl⟩:bE=az∧r'=r∧0=err:=by simpa using aN
      exact⟨A2,(.slice va vn vc),rfl,q1'.but t5 dW,hL3.but t5 dW,gg.but (nO _) dW,eq⟩
    by_cases hk2:kd=2
    . subst hk2
      have HC:=U hcs;clear hcs;go_wp2_with (first|(go_at_call 34;refine HC.out.mono ?_;rintro e w2 ⟨A2,vp,rfl,q1,q2,q3,q4⟩;obtain⟨va,vn,vc,rfl⟩:=jU q1;obtain⟨_,_,gq,eq,t1,t2⟩:=HQ.out;obtain⟨t3,t4⟩:=bX ⟨t1,t2⟩ q3;have vR:=U (ik (bX ⟨t3,t4⟩ (Grow.alloc A2.L w2 (.cells #[I 2,I r'.e,I r'.value,.slice va vn vc,I r'.over,I r'.ay] 81))).2);have H2:=U (zA q1 (zA q2 (zA (gq.trans q3) (zA (q4.trans eq) (zA t3 t4)))));clear q1 q2 q3 q4 gq eq t1 t2 t3 t4)|(refine wpList_store_mid rfl 46 (.tmp 6) (.tmp 36) rfl (w.heap.size+1) 0 #[I 0,I 0,.slice none 0 0,I 0,I 0] rfl rfl vR.out (by kernel_rfl) (by simp[Value.oneCell']) ?_;generalize hws:World.setCells _ _ _ _=ws));obtain⟨aN,_⟩:=HQ.out;obtain⟨q1,q2,gq,eq,t3,t4⟩:=H2.out;have ga:=Grow.alloc A2.L w2 (.cells #[I 2,I r'.e,I r'.value,.slice va vn vc,I r'.over,I r'.ay] 81);obtain⟨t5,t6⟩:=bX ⟨t3,t4⟩ ga;have hL3:=q2.alloc (.cells #[I 2,I r'.e,I r'.value,.slice va vn vc,I r'.over,I r'.ay] 81);have gg:=gq.trans ga;have q1':=q1.grow ga;generalize w2.alloc _=w3 at*;have dW:=But.setCells (w.heap.size+1) [I 0,I 0,.slice none 0 0,I 0,I 0] 0 w3;have hfin:=lh t6 (I 0) (I 0) (.slice none 0 0) (I 0) (I 0);rw[show w3.setCells (w.heap.size+1) 0 [I 0,I 0,.slice none 0 0,I 0,I 0]=ws from hws] at dW hfin;refine bodyPost_ret (dP rfl _ _ (w.heap.size+1) 46 #[I 0,I 0,.slice none 0 0,I 0,I 0] _ _ rfl hfin Tryz.underlying46 rfl (by kernel_rfl)) rfl ?_;replace aN:some (bE,({}:ic),18)=some (az,r,err):=aN;obtain⟨rfl,rfl,rfl⟩:bE=az∧({}:ic)=r∧18=err:=by simpa using aN
      exact⟨A2,(.slice none 0 0),rfl,dQ.nil _ _ _,hL3.but t5 dW,gg.but (nO _) dW,eq⟩
    by_cases hk1:kd=1
    . subst hk1
      have HC:=U hcs;clear hcs;go_wp2_with (first|(go_at_call 34;refine HC.out.mono ?_;rintro e w2 ⟨A2,vp,rfl,q1,q2,q3,q4⟩;obtain⟨va,vn,vc,rfl⟩:=jU q1;obtain⟨_,_,gq,eq,t1,t2⟩:=HQ.out;obtain⟨t3,t4⟩:=bX ⟨t1,t2⟩ q3;have vR:=U (ik (bX ⟨t3,t4⟩ (Grow.alloc A2.L w2 (.cells #[I 1,I r'.e,I r'.value,.slice va vn vc,I r'.over,I r'.ay] 81))).2);have H2:=U (zA q1 (zA q2 (zA (gq.trans q3) (zA (q4.trans eq) (zA t3 t4)))));clear q1 q2 q3 q4 gq eq t1 t2 t3 t4));obtain⟨aN,hj,_⟩:=HQ.out;obtain⟨q1,q2,gq,eq,t3,t4⟩:=H2.out;have ga:=Grow.alloc A2.L w2 (.cells #[I 1,I r'.e,I r'.value,.slice va vn vc,I r'.over,I r'.ay] 81);obtain⟨t5,t6⟩:=bX ⟨t3,t4⟩ ga;replace aN:lC n bE s=some (az,r,err):=aN;refine⟨⟨j+1,n,bE,A2,rfl,aN,by omega,q2.alloc _,gq.trans ga,eq,t5,t6⟩,?_⟩;show 13824000 - ((j:Int)+1).toNat<13824000 - ((j:Int)).toNat;omega
    exfalso;have h:=HQ.out.1;rw[aX hk3,aX hk2,aX hk1] at h;cases h
  . cases aN
section
variable {L L':cZ} {w G:World}
theorem jL.soft {v:Value} {xs:List Value} (f:jL L w v xs) (h:jf L w L' G):jL L' G v xs:=by
 refine⟨f.1.soft h,fun g off n cap hv=>?_⟩
 rcases f.2 g off n cap hv with h0|⟨cs,hc⟩
 . exact .inl h0
 . by_cases hn:n=0
   . exact .inl hn
   . obtain⟨ad,n',cap',e1,e2,e3,e4,e5⟩:=f.1
     obtain⟨rfl,rfl,rfl⟩:ad=za g off∧n'=n∧cap'=cap:=by rw[hv] at e1;simp at e1;exact⟨e1.1.symm,e1.2.1.symm,e1.2.2.symm⟩
     obtain⟨g',off',e6,e7,e8,_⟩:=e5.resolve_left hn;obtain⟨rfl,rfl⟩:g=g'∧off=off':=by simpa using e6
     exact .inr ⟨cs,(h.block g e8 e7).trans hc⟩
theorem pE.soft (h:jf L w L' G):∀ {l:List Ev} {xs:List Value},pE L w l xs->pE L' G l xs
 |[],_,f=>f
 |_::_,_,⟨vp,ys,h1,h2,h3⟩=>⟨vp,ys,h1,h2.soft h,pE.soft h h3⟩
structure EW (L:cZ) (w:World) (L':cZ) (G:World) (ob:Option Nat):Prop where
 os:G.os=w.os
 tape:G.tape=w.tape
 output:G.output=w.output
 size:w.heap.size<=G.heap.size
 block:∀ k,k<w.heap.size->some k≠ob->G.heap[k]? =w.heap[k]?
 lab:∀ k,k<w.heap.size->L' k=L k
 fresh:∀ k,G.heap.size<=k->L' k=none
 tmp:∀ b,ob=some b->L b=some .tmp
theorem EW.soft {ob:Option Nat} (h:EW L w L' G ob):jf L w L' G:=⟨h.size,fun b Z e=>h.block b Z (by intro hh;rw[h.tmp b hh.symm] at e;cases e),fun b Z e=>(h.lab b Z).trans e⟩
end
theorem Kb (A:au) (L:cZ) (D:St) (q:bN):aY {A with L:=L} D q=aY A D q:=by cases q<;>rfl
theorem aD.CL {A:au} {D:St} {w G:World} {L':cZ} {ob:Option Nat} (hR:aD A D w) (h:EW A.L w L' G ob):aD {A with L:=L'} D G:=by
 refine⟨⟨fun r=>?_,h.fresh⟩,hR.ev.soft h.soft,hR.sl,hR.nw,hR.nt,hR.nv,hR.n8,hR.nc⟩;rw[Kb]
 by_cases hr:r=.tmp
 . subst hr;trivial
 . refine (hR.mem.all r).frame (fun k V hk'=>h.block k V ?_) h.lab
   intro hh;rw[h.tmp k hh.symm] at hk';exact hr (zj hk').symm
theorem Live.CL {A:au} {D:St} {w G:World} {L':cZ} {ob:Option Nat} (hL:Live A D w) (h:EW A.L w L' G ob):Live {A with L:=L'} D G:=
 ⟨hL.rep.CL h,hL.mp,hL.mt,fun s hs c hc=>let ⟨e1,k,e2,e3⟩:=hL.call s hs c hc;⟨e1,k,e2,(show lL (kp A D s) L' G (A.aW s) k from e3.soft h.soft)⟩,hL.idle,hL.sx.soft rfl h.soft⟩
theorem Grow.CL {L0 L L':cZ} {w0 w G:World} {ob:Option Nat} (g:Grow L0 w0 L w) (h:EW L w L' G ob) (Z:∀ b,ob=some b->w0.heap.size<=b):Grow L0 w0 L' G:=
 have hne:∀ k,k<w0.heap.size->some k≠ob:=fun k V hh=>by have:=Z k hh.symm;omega
 ⟨h.os.trans g.os,h.tape.trans g.tape,h.output.trans g.output,eP g.size h.size,fun k V hl=>(h.block k (qW V g.size) (hne k V)).trans (g.block k V hl),fun k V=>(h.lab k (qW V g.size)).trans (g.lab k V),fun k V hl=>(h.block k (qW V g.size) (hne k V)).trans (g.keep k V hl)⟩
def rC (L:cZ) (v:Value):Prop:=∀ b,v.ownBlock=some b->L b=some .tmp
theorem uJ {A:au} {D:St} {w G:World} {v v':Value} {base:Nat} {e:TypeId} {size n:Nat} {xs:List Value} (hL:Live A D w) (hv:rC A.L v) (aS:G.ownsRow base e size v' n xs) (hg:w.grownBy G v.ownBlock) (h3:v'.ownBlock=v.ownBlock∨∀ g,v'.ownBlock=some g->w.heap.size<=g):
 ∃ L',EW A.L w L' G v.ownBlock∧rC L' v':=by
 have hf:∀ k,G.heap.size<=k->A.L k=none:=fun k V=>hL.rep.mem.fresh k (eP hg.size V)
 by_cases hs:v'.ownBlock=v.ownBlock
 . exact⟨A.L,⟨hg.os,hg.tape,hg.output,hg.size,hg.block,fun _ _=>rfl,hf,hv⟩,fun b Z=>hv b (hs.symm.trans Z)⟩
 . cases Z:v'.ownBlock with
   |none=>exact⟨A.L,⟨hg.os,hg.tape,hg.output,hg.size,hg.block,fun _ _=>rfl,hf,hv⟩,fun b hb'=>by rw[Z] at hb';cases hb'⟩
   |some g=>
    have hge:=(h3.resolve_left hs) g Z;have hlt:=(aS.lt g Z).2;refine⟨gU A.L g .tmp,⟨hg.os,hg.tape,hg.output,hg.size,hg.block,fun k V=>di (by omega),fun k V=>?_,hv⟩,fun b hb'=>?_⟩
    . rw[di (by omega)];exact hf k V
    . obtain rfl:g=b:=zj (Z.symm.trans hb')
      exact gH _ _ _
def Kc (L:cZ) (w:World) (size:Nat) (v:Value) (xs:List Value):Prop:=Ow.Row w 0 size v xs∧rC L v
def jg (L:cZ) (w:World):List ic->List Value->Prop
 |[],cs=>cs=[]
 |r::rs,cs=>∃ vp cs',cs=[I r.e,I r.value,vp,I r.over,I r.ay]++cs'∧dQ L w 2 vp (bI r.aB)∧jg L w rs cs'
theorem jg.soft {L L':cZ} {w G:World} (g:jf L w L' G):∀ {rs:List ic} {cs:List Value},jg L w rs cs->jg L' G rs cs
 |[],_,h=>h
 |_::_,_,⟨vp,cs',h1,h2,h3⟩=>⟨vp,cs',h1,h2.soft g,h3.soft g⟩
theorem jg.snoc {L:cZ} {w:World}:∀ {rs:List ic} {cs:List Value} (_:jg L w rs cs) (r:ic) (vp:Value) (_:dQ L w 2 vp (bI r.aB)),jg L w (rs++[r]) (cs++[I r.e,I r.value,vp,I r.over,I r.ay])
 |[],_,h,r,vp,f=>⟨vp,[],by rw[show _=_ from h];rfl,f,rfl⟩
 |_::_,_,⟨RQ,cs',h1,h2,h3⟩,r,vp,f=>⟨RQ,_,by rw[h1,List.append_assoc],h2,h3.snoc r vp f⟩
theorem Grow.soft {L L':cZ} {w G:World} (g:Grow L w L' G):jf L w L' G:=⟨g.size,g.block,fun b Z e=>(g.lab b Z).trans e⟩
def bR (D:St) (s:Nat) (o:En.Op) (t:bB):St:=if iB o then (({D with seq:=D.seq+1}:St).aF s (fJ o (D.seq+1))) else (({(D.bq s {t with ops:=t.ops+1}) with seq:=D.seq+1}:St).aF s (fJ o (D.seq+1)))
def gV (D:St) (s:Nat) (o:En.Op):Option St:=
 match D.ag.getD s none with
 |some t=>
  if jK o=true∧(D.calls.getD s none).isNone=true∧(t.ops<12∨(iB o=true∧t.ops<1000000))∧D.seq<4000000000000000000∧s<D.calls.length∧s<D.ag.length∧lW (bR D s o t) s=true then
   match (bR D s o t).first s with
   |(dL,k)=>
    match dL.calls.getD s none with
    |some c4=>if iW D dL s=true then some (dL.aF s {c4 with k:=some k}) else none
    |none=>none
  else none
 |none=>none
theorem DX {D:St} {s:Nat} (c:dF) (h:s<D.calls.length):(D.aF s c).calls.getD s none=some c:=by
 unfold St.aF;simp[mM,List.getElem?_set,h]
theorem Ke {D:St} {s:Nat} (t:bB) (h:s<D.ag.length):(D.bq s t).ag.getD s none=some t:=by
 unfold St.bq;simp[mM,List.getElem?_set,h]
theorem AU {D aH:St} {s:Nat} {o:En.Op} (hs:s<8) (h:gV D s o=some aH):DW D s o aH 0:=by
 intro A w hL;unfold gV at h
 split at h
 . rename_i t ht
   split at h
   . rename_i hh
     obtain⟨ho,hn,hop,vY,hcl,htl,hof⟩:=hh;have hn':D.calls.getD s none=none:=by simpa using hn
     split at h
     rename_i dL k hf
     split at h
     . rename_i c4 hc4
       split at h
       . rename_i hoth
         obtain rfl:=zj h;have hcq:=qG hoth;unfold bR at hof hf
         cases he:iB o with
         |true=>
          rw[he] at hof hf;simp only[if_true] at hof hf;exact Cu hL s hs t ht o ho he hn' (by omega) vY (DV (t:=t) ht (DX _ hcl) hof) dL k hf c4 hc4 hcq
         |false=>
          rw[he] at hof hf;simp only[Bool.false_eq_true,if_false] at hof hf;exact AB hL s hs t ht o ho he hn' (hop.resolve_right (fun h=>by rw[he] at h;cases h.1)) vY (DV (t:={t with ops:=t.ops+1}) (Ke _ htl) (DX _ hcl) hof) dL k hf c4 hc4 hcq
       . cases h
     . cases h
   . cases h
 . cases h
def Kg (D:St) (s ak:Nat) (aH:St) (id:Nat):Prop:=∀ A w,Live A D w->zk 9 #[R A.Y 0,I s,I ak] w (GR A w aH id)
def bC (D:St) (s ak:Nat) (az:St):St:=
 ((((({az with aA:=D.aA+1}:St).bP 0 (D.word 0) (aO (ai (D.word 0)+1) 0)).put (D.place (D.aA+1)) (pack 1 0)).put (1+s) (ai (D.word 0)+1)).bq s (eT (D.aA+1) ak (ai (D.word 0)+1))).event {kind:=1,t:=D.aA+1,n:=ai (D.word 0)+1,op:=⟨0,0,0,ak⟩}
def gG (D:St) (s ak:Nat):Option (St×Nat):=
 if 1<=ak∧ak<=3∧(D.ag.getD s none).isNone=true∧(D.calls.getD s none).isNone=true∧D.aA<2000∧D.word 0<18446744073709551616∧ai (D.word 0)<281474976710000∧ai (D.word 0)<D.limit∧D.count<3000000000000000000∧D.aP.length<1000000 then
  if aT (D.word 0)=0 then some (bC D s ak D.tick,D.aA+1)
  else if aT (D.word 0)<=2000 then some (bC D s ak (D.tick.bT (D.word 0)),D.aA+1)
  else none
 else none
theorem AV {D aH:St} {s ak id:Nat} (hs:s<8) (h:gG D s ak=some (aH,id)):Kg D s ak aH id:=by
 intro A w hL;unfold gG at h
 split at h
 . rename_i hh
   obtain⟨h1,h2,h3,h4,h5,h6,h7,h8,h9,h10⟩:=hh
   split at h
   . rename_i hl
     simp only[Option.some.injEq,gZ] at h;obtain⟨rfl,rfl⟩:=h;exact ES hL s hs ak h1 h2 (by simpa using h3) (by simpa using h4) h5 h6 h7 h8 hl h9 h10
   . rename_i hl
     split at h
     . rename_i hl2
       simp only[Option.some.injEq,gZ] at h;obtain⟨rfl,rfl⟩:=h;exact CJ hL s hs ak h1 h2 (by simpa using h3) (by simpa using h4) h5 h6 h7 h8 ⟨by omega,hl2⟩ h9 h10
     . cases h
 . cases h
theorem jE {w:World} {b:Nat} {a0 a1 a2 a3 a4 a5 a6 a7 a8:Value} {T:TypeId} (h:w.heap[b]? =some (.cells #[a0,a1,a2,a3,a4,a5,a6,a7,a8] T)) (v0 v1 v2 v3 v4 v5 v6 v7 v8:Value):(w.setCells b 0 [v0,v1,v2,v3,v4,v5,v6,v7,v8]).heap[b]? =some (.cells #[v0,v1,v2,v3,v4,v5,v6,v7,v8] T):=by
 have h0:=heap_setCell_same h 0 v0;have h1:=heap_setCell_same h0 1 v1;have h2:=heap_setCell_same h1 2 v2;have h3:=heap_setCell_same h2 3 v3;have h4:=heap_setCell_same h3 4 v4;have h5:=heap_setCell_same h4 5 v5;have h6:=heap_setCell_same h5 6 v6;have h7:=heap_setCell_same h6 7 v7;have h8:=heap_setCell_same h7 8 v8
 simpa [World.setCells] using h8
theorem Below.oU {B b:Nat} {a w:World} (h:Below B a w) (Z:B<=b) (v0 v1 v2 v3 v4 v5 v6 v7 v8:Value):Below B a (w.setCells b 0 [v0,v1,v2,v3,v4,v5,v6,v7,v8]):=
 ((((((((h.setCell (p:=(J b 0)) Z v0).setCell (p:=(J b 1)) Z v1).setCell (p:=(J b 2)) Z v2).setCell (p:=(J b 3)) Z v3).setCell (p:=(J b 4)) Z v4).setCell (p:=(J b 5)) Z v5).setCell (p:=(J b 6)) Z v6).setCell (p:=(J b 7)) Z v7).setCell (p:=(J b 8)) Z v8
def oD (x:Status):Array Value:=#[.bool x.live,.bool x.busy,.bool x.waits,I x.id,I x.ak,I x.state,zu x.aG,zu x.ax,I x.ops]
theorem AX (hR:aD A D w) (s:Nat) (hs:s<8) (ht:D.ag.getD s none=none):
 zk 10 #[R A.Y 0,I s] w fun e G=>e=.returned (.agg #[.bool false,.bool false,.bool false,I 0,I 0,I 0,zu 0,zu 0,I 0])∧Below w.heap.size w G:=by
 have b1:(s:Int)<8:=by omega
 have b0:(0:Int)<=(s:Int):=by omega
 have ll:=U (gu s hs);have r1:=hR.alloc (.cells #[.bool false,.bool false,.bool false,I 0,I 0,I 0,zu 0,zu 0,I 0] 42);have v5:=r1.eH (5+s) (dV A D hs);rw[show A.tp D s=.pointer none by unfold au.tp;rw[ht]] at v5;clear hR hs ht r1;go_enter Tryz.func10,Tryz.ntmps10;go_wp2_with (go_at_call 40;refine (ll.out _).mono ?_;rintro e G ⟨rfl,rfl⟩)
 (try simp only[Exit.inBlock,Exit.then])
 refine bodyPost_ret (results_cell_row rfl _ _ w.heap.size 42 #[.bool false,.bool false,.bool false,I 0,I 0,I 0,zu 0,zu 0,I 0] _ _ rfl (heap_alloc_new w _) Tryz.underlying42 rfl (by kernel_rfl)) rfl ?_;exact⟨rfl,(Below.refl _ w).alloc (zr _) _⟩
theorem EX (hL:Live A D w) (s:Nat) (hs:s<8) (t:bB) (ht:D.ag.getD s none=some t) (he:t.ax=0) (hc:D.calls.getD s none=none):
 zk 10 #[R A.Y 0,I s] w fun e G=>e=.returned (.agg #[.bool true,.bool false,.bool false,I t.id,I t.ak,I 1,zu t.aG,zu t.ax,I t.ops])∧Below w.heap.size w G:=by
 have hR:=hL.rep;have b1:(s:Int)<8:=by omega
 have b0:(0:Int)<=(s:Int):=by omega
 have ll:=U (gu s hs);have r1:=hR.alloc (.cells #[.bool false,.bool false,.bool false,I 0,I 0,I 0,zu 0,zu 0,I 0] 42);have H1:Hid (∀ G,Below (w.alloc (.cells #[.bool false,.bool false,.bool false,I 0,I 0,I 0,zu 0,zu 0,I 0] 42)).heap.size (w.alloc (.cells #[.bool false,.bool false,.bool false,I 0,I 0,I 0,zu 0,zu 0,I 0] 42)) G->zS G A.Y (5+s) (A.bt s) 0∧G.cell? (J A.Y (13+s))=some (.pointer none)∧zT G (A.bt s) 0 t.id∧zT G (A.bt s) 1 t.ak∧zV G (A.bt s) 3 t.aG∧zV G (A.bt s) 4 t.ax∧zT G (A.bt s) 5 t.ops):=by
  intro G Z;have r:=r1.below Z;have h5:=r.eH (5+s) (dV A D hs);rw[show A.tp D s=R (A.bt s) 0 by unfold au.tp;rw[ht]] at h5;have GY:=r.eH (13+s) (eF A D hs);rw[hL.idle s hs hc] at GY;exact⟨h5,GY,r.dZ ht 0 rfl,r.dZ ht 1 rfl,r.dZ ht 3 rfl,r.dZ ht 4 rfl,r.dZ ht 5 rfl⟩
 obtain⟨v5,v13,t0,t1,t3,t4,t5⟩:=H1.out _ (Below.refl _ _);obtain⟨JP,JQ,JR,JS,JU⟩:=qX (x:=t.ax) (c:=0) (ci:=0) (by omega);have RS:decide ((0:Int)<(t.ax:Int))=false:=by simp<;>omega
 have RU:((0:Int)<(t.ax:Int))=False:=by simp<;>omega
 have RV:(0<t.ax)=False:=by simp<;>omega
 have RX:decide (0<t.ax)=false:=by simp<;>omega
 clear hL hR hs ht r1 he;go_enter Tryz.func10,Tryz.ntmps10;go_wp2_with (go_at_call 40;refine (ll.out _).mono ?_;rintro e G ⟨rfl,rfl⟩);have HZ0:Hid ((w.alloc (.cells #[.bool false,.bool false,.bool false,I 0,I 0,I 0,zu 0,zu 0,I 0] 42)).heap[w.heap.size]? =some (.cells #[.bool false,.bool false,.bool false,I 0,I 0,I 0,zu 0,zu 0,I 0] 42)∧Below w.heap.size w (w.alloc (.cells #[.bool false,.bool false,.bool false,I 0,I 0,I 0,zu 0,zu 0,I 0] 42))∧w.heap.size<(w.alloc (.cells #[.bool false,.bool false,.bool false,I 0,I 0,I 0,zu 0,zu 0,I 0] 42)).heap.size):=⟨heap_alloc_new w _,(Below.refl _ w).alloc (zr _) _,by simp⟩
 clear v5 v13 t0 t1 t3 t4 t5;generalize hw0:w.alloc _=w0 at*;obtain⟨v5,v13,t0,t1,t3,t4,t5⟩:=H1.out w0 (Below.refl _ _)
 go_quiet (fail)
 clear v5 v13 t0 t1 t3 t4 t5;generalize iG:w0.drewN _=w5;have hb5:Below w0.heap.size w0 w5:=by rw[<-iG];exact⟨rfl,rfl,rfl,zr _,fun _ _=>rfl⟩
 obtain⟨v5,v13,t0,t1,t3,t4,t5⟩:=H1.out w5 hb5;obtain⟨_,_,y0,y1,y3,y4,y5⟩:=H1.out (w5.alloc (.cells #[.bool false,.bool false,.bool false,I 0,I 0,I 0,zu 0,zu 0,I 0] 42)) (hb5.alloc hb5.size _);go_wp2_with fail
 go_region
 generalize nR:World.drew _=w6;have F6:Fix (fun _=>none) w6 w5.heap.size (.cells #[.bool true,.bool false,.bool false,I t.id,I t.ak,I 1,zu t.aG,zu t.ax,I t.ops] 42):=⟨rfl,by rw[<-nR];exact heap_alloc_new w5 _⟩
 have hb6:Below w0.heap.size w0 w6:=by rw[<-nR];exact (hb5.alloc hb5.size _).drew
 have RY:w5.heap.size<w6.heap.size:=eQ F6.2;have Kh:=U (zA hb6 (zA F6 hb5.size));obtain⟨_,_,_,_,_,u4,_⟩:=H1.out w6 hb6;clear v5 v13 t0 t1 t3 t4 t5 y0 y1 y3 y4 y5;have s0:=F6.cell 0 (v:=.bool true) rfl;have s1:=F6.cell 1 (v:=.bool false) rfl;have s2:=F6.cell 2 (v:=.bool false) rfl;have s3:=F6.cell 3 (v:=I t.id) rfl;have s4:=F6.cell 4 (v:=I t.ak) rfl;have s5:=F6.cell 5 (v:=I 1) rfl;have s6:=F6.cell 6 (v:=zu t.aG) rfl;have s7:=F6.cell 7 (v:=zu t.ax) rfl;have s8:=F6.cell 8 (v:=I t.ops) rfl;have z5:=F6.frozen 5;have f7:Fix (fun _=>none) w6 w5.heap.size (.cells #[.bool true,.bool false,.bool false,I t.id,I t.ak,I 1,zu t.aG,zu t.ax,I t.ops] 42):=F6;have EY:Below w0.heap.size w0 w6:=hb6;have uB:Below w0.heap.size w0 w6:=EY;have vR:=U (ik (uB.block w.heap.size HZ0.out.2.2 |>.trans HZ0.out.1));have hfin:=jE (uB.block w.heap.size HZ0.out.2.2 |>.trans HZ0.out.1) (.bool true) (.bool false) (.bool false) (I t.id) (I t.ak) (I 1) (zu t.aG) (zu t.ax) (I t.ops);have MJ:=U hfin;have FE:=U (Below.oU (HZ0.out.2.1.trans (uB.mono (Nat.le_of_lt HZ0.out.2.2))) (zr _) (.bool true) (.bool false) (.bool false) (I t.id) (I t.ak) (I 1) (zu t.aG) (zu t.ax) (I t.ops));clear hfin;clear uB F6 hb6 f7 EY nR;go_wp2_with (refine wpList_store_mid rfl 42 (.tmp 4) (.tmp 68) rfl w.heap.size 0 #[.bool true,.bool false,.bool false,I t.id,I t.ak,I 1,zu t.aG,zu t.ax,I t.ops] rfl rfl vR.out (by kernel_rfl) (by simp[Value.oneCell']) ?_;generalize hws:World.setCells _ _ _ _=ws);have dW:Below w.heap.size w (w6.setCells w.heap.size 0 [.bool true,.bool false,.bool false,I t.id,I t.ak,I 1,zu t.aG,zu t.ax,I t.ops]):=FE.out;have hfin:=MJ.out;rw[show w6.setCells w.heap.size 0 [.bool true,.bool false,.bool false,I t.id,I t.ak,I 1,zu t.aG,zu t.ax,I t.ops]=ws from hws] at dW hfin
 (try simp only[Exit.inBlock,Exit.then])
 refine bodyPost_ret (results_cell_row rfl _ _ w.heap.size 42 #[.bool true,.bool false,.bool false,I t.id,I t.ak,I 1,zu t.aG,zu t.ax,I t.ops] _ _ rfl hfin Tryz.underlying42 rfl (by kernel_rfl)) rfl ?_;exact⟨rfl,dW⟩
end Go.Proofs.YthicolbbmjfkfaaGreat.Em
