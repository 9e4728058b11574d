import Derived.Test.YthicolbbmjfkfaaGreatQn13
import Derived.Test.YthicolbbmjfkfaaGreatQn12
set_option linter.unusedVariables false
set_option linter.unusedSimpArgs false
set_option maxRecDepth 100000
set_option maxHeartbeats 1600000
namespace Go.Proofs.YthicolbbmjfkfaaGreat.Em
open Go.ChangeShapes Go.WideShapes Go.ChangeAt Go.RowKit En
variable {A:au} {D:St} {w:World}
theorem Gd (s:Nat):∀ (n:Nat) {A:au} {D:St} {w:World} (hR:aC A D w) (t:bL) (ht:D.aj.getD s none=some t) (c:dN) (hc:D.calls.getD s none=some c) (F:Nat) (hnk:n=c.op.hi+1 - F) (O6:F<=64) (hhi:c.op.hi<=63) (hcx:xD D t) (hpl:c.r.aO.length+n<1000000),
 zk 95 #[R A.H 0,R (A.bt s) 0,R (A.bc s) 0,I F] w (bE A w s (iE s n D F)):=by
 intro n
 induction n with
 |zero=>
  intro A D w hR t ht c hc F hnk O6 hhi hcx hpl;have h:=LF hR s t ht c hc F (by omega);have e:iE s 0 D F=(D,.fin c.r):=by unfold iE;rw[bu hc]
  rw[e];exact h
 |succ n ih=>
  intro A D w hR t ht c hc F hnk O6 hhi hcx hpl;have ec:=bu hc;have et:=cK ht;have Z:¬ c.op.hi<F:=by omega
  cases hx:t.cell F with
  |none=>
   have h:=JA hR s t ht c hc F Z hx;rw[Gb s n D F (by rw[ec];exact Z) (by rw[et];exact hx),et];exact h
  |some x=>
   rw[Gc s n D F x (by rw[ec];exact Z) (by rw[et];exact hx)]
   cases hth:x.there with
   |false=>
    rw[aR (by decide)];refine JB hR s t ht c hc F Z (by omega) x hx hth _ fun A' E r st bx=>?_
    have h:=ih r t ht c hc (F+1) (by omega) (by omega) hhi hcx (by omega);rw[st.H,st.bt,st.bc] at h;exact h
   |true=>
    rw[aV rfl];refine JC hR s t ht c hc F Z (by omega) x hx hth (hcx F x hx hth) (by omega) _ fun A' E r st bx=>?_
    have hc2:(D.tell s F (D.valueOf x.own)).calls.getD s none=some {c with r:={c.r with aO:=c.r.aO++[(F,D.valueOf x.own)]}}:=by
     unfold St.tell;rw[ec,dm (bP hc),aV rfl]
    have h:=ih r t ht _ hc2 (F+1) (by simp only;omega) (by omega) hhi (fun k y hy hty=>let q:=hcx k y hy hty;⟨q.lo,q.hi,q.u⟩) (by simp only[jR,List.length_cons,List.length_nil];omega);rw[st.H,st.bt,st.bc] at h;exact h
theorem xE (hR:aC A D w) (s:Nat) (t:bL) (ht:D.aj.getD s none=some t) (c:dN) (hc:D.calls.getD s none=some c) (F:Nat) (O6:F<=64) (hhi:c.op.hi<=63) (hcx:xD D t) (hpl:c.r.aO.length<100000):
 zk 95 #[R A.H 0,R (A.bt s) 0,R (A.bc s) 0,I F] w (bE A w s (D.scan s F)):=by
 have h:=Gd s (c.op.hi+1 - F) hR t ht c hc F rfl O6 hhi hcx (by omega);unfold St.scan;rw[bu hc];exact h
theorem Rs (hR:aC A D w) (s:Nat) (t:bL) (ht:D.aj.getD s none=some t) (c:dN) (hc:D.calls.getD s none=some c) (F G at_ b0 b1 b2 b3 b4:Nat) (B0:aN A.L w b0 (R (A.bt s) 0)) (B1:aN A.L w b1 (I F)) (B2:nR (kp A D s) A.L w b2 F) (B3:aN A.L w b3 (R A.H 0)) (B4:aN A.L w b4 (R (A.bc s) 0)) (hl:G=0∨VL D G) (Z:F<=63) (hhi:c.op.hi<=63) (hcx:xD D t) (hpl:c.r.aO.length<100000 - 1) (hn:t.reads.length<1000000):
 zk 118 #[zu G,R b0 0,R b1 0,R b2 0,R b3 0,R b4 0] w (bE A w s (D.thn s ⟨F,at_,.scan F⟩ G)):=by
 obtain⟨vt,X2,m0,m1,Uz,N0,N1⟩:=B2;have c0:=B0.cell;have c1:=B1.cell;have n1:IntKind.i64.wrap ((F:Int)+1)=(F:Int)+1:=by rw[jG];omega
 have hr:=oH hR s t ht F G false hn;have HR:=zH hr;have ht1:∀ bB:St,bB=D.read s F G false->∃ t',bB.aj.getD s none=some t'∧t'.cells=t.cells:=by
  rintro bB rfl;refine⟨{t with reads:=t.reads++[(F,G,false)]},?_,rfl⟩;unfold St.read;rw[dC (dB ht),aV rfl,cK ht]
 have qC:(D.read s F G false).aF=D.aF:=rfl;have pE:(D.read s F G false).calls=D.calls:=rfl;have Qk:(D.read s F G false).valueOf G=D.valueOf G:=rfl;have Rt:∀ (bB:St) (t':bL),bB.aF=D.aF->t'.cells=t.cells->xD bB t':=by
  intro bB t' h1 h2 k y hy hty;have q:=hcx k y (by unfold bL.cell at hy ⊢;rw[<-h2];exact hy) hty;exact⟨q.lo,by rw[h1];exact q.hi,q.u⟩
 have hlt:=bP hc;obtain⟨aH,mE⟩:∃ aH,aH=D.read s F G false:=⟨_,rfl⟩
 obtain⟨t1,ht1',htc⟩:=ht1 aH mE;rw[<-mE] at qC pE Qk HR;have e1:D.thn s ⟨F,at_,.scan F⟩ G=(if G=0 then aH else aH.tell s F (aH.valueOf G)).scan s (F+1):=by simp only[St.thn,<-mE]
 rw[e1];have HB:Hid (∀ (A1:au) Y,Grow A.L w A1.L Y->zS Y b0 0 (A.bt s) 0∧zT Y b1 0 F∧Y.cell? (J b2 0)=some vt∧zS Y b3 0 A.H 0∧zS Y b4 0 (A.bc s) 0):=fun A1 Y g=>⟨(B0.grow g).cell,(B1.grow g).cell,(X2.grow g).cell,(B3.grow g).cell,(B4.grow g).cell⟩
 have hc1:aH.calls.getD s none=some c:=by rw[pE];exact hc
 have Yl:Hid (∀ (A1:au) Y,aC A1 aH Y->bT A A1 s->zk 95 #[R A.H 0,R (A.bt s) 0,R (A.bc s) 0,I ((F:Int)+1)] Y (bE A1 Y s (aH.scan s (F+1)))):=by
  intro A1 Y r st;have h:=xE r s t1 ht1' c hc1 (F+1) (by omega) hhi (Rt aH t1 qC htc) (by omega);rw[st.H,st.bt,st.bc] at h;exact h
 have Nt:Hid (G≠0->∀ (A1:au) Y,aC A1 aH Y->Grow A.L w A1.L Y->bT A A1 s->zk 87 #[R A.H 0,zu G] Y.drew (fun e E=>e=.returned (.pointer (some ⟨A1.bv,2*ag G,none⟩))∧E=Y.drew)∧Y.drew.cell? ⟨A1.bv,2*ag G+1,none⟩=zt (aH.valueOf G:Int)∧zk 117 #[I (aH.valueOf G:Int),ptr m0,ptr m1] Y.drew (Rp A1 Y.drew s (aH.tell s F (aH.valueOf G)))):=by
  intro h0 A1 Y r g st;have hv:=hl.resolve_left h0;have hv1:VL aH G:=⟨hv.lo,by rw[qC];exact hv.hi,hv.u⟩
  have gd:=g.trans (Grow.drew _ _);have hd:=flip (nA r.drew G hv1.lo hv1.hi hv1.u);rw[st.H] at hd;have Ze:aN A1.L Y.drew m0 (ptr (A1.bc s)):=by
   have:=N0.grow gd;show aN A1.L Y.drew m0 (ptr (A1.bc s));rw[st.bc];exact this
  exact⟨hd,(r.drew.val (iY hv1)).2,Ab r.drew s c hc1 F (aH.valueOf G) m0 m1 Ze (N1.grow gd) (by omega)⟩
 have HS2:Hid (∀ (A1:au) Y,aC A1 (aH.tell s F (aH.valueOf G)) Y->bT A A1 s->zk 95 #[R A.H 0,R (A.bt s) 0,R (A.bc s) 0,I ((F:Int)+1)] Y (bE A1 Y s ((aH.tell s F (aH.valueOf G)).scan s (F+1)))):=by
  intro A1 Y r st;have hc2:(aH.tell s F (aH.valueOf G)).calls.getD s none=some {c with r:={c.r with aO:=c.r.aO++[(F,aH.valueOf G)]}}:=by
   unfold St.tell;rw[bu hc1,dm (bP hc1),aV rfl]
  have h:=xE r s t1 ht1' _ hc2 (F+1) (by omega) hhi (Rt _ t1 qC htc) (by simp only[jR,List.length_cons,List.length_nil];omega);rw[st.H,st.bt,st.bc] at h;exact h
 clear hR ht hc hl Z hhi hcx hpl hn hr ht1 qC pE Qk Rt hlt e1 hc1 htc ht1' B0 B1 X2 B3 B4 N0 N1 mE;subst Uz;generalize aH.valueOf G=va at*
 by_cases h0:G=0
 . rw[aV h0]
   obtain⟨Vy,Vz,VA,VB,WB⟩:=uA (x:=G) (c:=0) (ci:=0) (by omega);clear h0 Nt HS2;go_enter Tryz.func118,Tryz.ntmps118;go_wp2_with (first|(go_at_call 116;refine HR.out.mono ?_;rintro e Y ⟨rfl,A1,q1,q2,q3,q4,q5⟩;obtain⟨d0,d1,d2,d3,d4⟩:=HB.out A1 Y q2;have HQ:=zH (zA q1 (zA q2 q3));have WK:=zH (Yl.out A1 Y q1 q3);clear q1 q2 q3 q4 q5)|(go_at_call 95;refine WK.out.mono ?_;rintro e w2 ⟨A2,v,rfl,p1,p2,p3,p4⟩));go_ret;exact⟨A2,v,rfl,p1,HQ.out.2.1.trans p2,HQ.out.2.2.trans p3,p4⟩
 . rw[aR h0]
   obtain⟨Vy,Vz,VA,VB,WB⟩:=rf (x:=G) (c:=0) (ci:=0) (by omega);have HT0:=zH (Nt.out h0);clear h0 Nt Yl;go_enter Tryz.func118,Tryz.ntmps118;go_wp2_with (go_at_call 116;refine HR.out.mono ?_;rintro e Y ⟨rfl,A1,q1,q2,q3,q4,q5⟩;obtain⟨d0,d1,d2,d3,d4⟩:=HB.out A1 Y q2;have HQ:=zH (zA q1 (zA q2 q3));clear q1 q2 q3 q4 q5);obtain⟨hd,hv,ht⟩:=HT0.out A1 Y HQ.out.1 HQ.out.2.1 HQ.out.2.2;have HD:=zH hd;have HT:=zH ht;clear hd ht;go_wp2_with fail;refine wp_region_still_tail 7 (by kernel_rfl) (by kernel_rfl) ?_;simp only[jS,jT,jU,jV]
   repeat still_step
   still_call HD.out
   repeat still_step
   refine wpStill_nil ?_;change wpList _ _ _ _ _ Y.drew;have Ot:=zH (HQ.out.2.1.trans (Grow.drew A1.L Y));generalize Y.drew=wd at*;go_wp2_with (first|(go_at_call 117;refine HT.out.mono ?_;rintro e w2 ⟨rfl,A2,p1,p2,p3,p4⟩;obtain⟨d0,d1,d2,d3,d4⟩:=HB.out A2 w2 (Ot.out.trans p2);have WK:=zH (HS2.out A2 w2 p1 (HQ.out.2.2.trans p3));have HY:=zH (zA (Ot.out.trans p2) (HQ.out.2.2.trans p3));clear p1 p2 p3 p4)|(go_at_call 95;refine WK.out.mono ?_;rintro e w3 ⟨A3,v,rfl,p1,p2,p3,p4⟩));go_ret;exact⟨A3,v,rfl,p1,HY.out.1.trans p2,HY.out.2.trans p3,p4⟩
def vl (D:St) (l:Nat):Bool:=decide (1<=l % 131072)&&decide (l % 131072<=D.aF)&&decide (l<18446744073709551616)
def Kq (D:St) (l:Nat):Bool:=l==0||vl D l
def lh (D:St):Bool:=decide (D.free.length<100000)&&D.free.all (fun i=>decide (i<D.aF))&&D.tags.all (fun p=>decide (p.1<=65535))&&decide (D.ja<1000000)
def uN (D:St) (t:bL):Bool:=t.keys.all fun F=>match t.cell F with|some x=>Kq D x.own&&Kq D x.old|none=>false
def uO (D:St) (t:bL):Bool:=t.cells.all fun p=>!p.2.there||vl D p.2.own
def tV (D:St) (s:Nat) (h:dJ) (G:Nat):Bool:=decide ((D.t s).reads.length<1000000)&&match h.thn with
 |.get=>Kq D G
 |.scan k=>decide (k=h.F)&&Kq D G&&decide (k<=63)&&decide ((D.c s).op.hi<=63)&&uO D (D.t s)&&decide ((D.c s).r.aO.length<90000)
 |.change=>decide ((D.c s).op.F=h.F)
 |.judge i _=>decide (i+1<=(D.t s).reads.length)
def small (D:St) (i:Nat):Bool:=decide (D.word i<18446744073709551616)
def qP (D:St) (s:Nat):Bool:=decide ((D.t s).aP.length<1000000)&&decide (D.aT.length<1000000)
def Ru (D:St) (s:Nat) (k:K):Bool:=
 decide (D.count<3000000000000000000)&&match k with
 |.fin _=>true
 |.start h=>decide (h.F<64)&&(D.word (9+h.F) !=0||tV D s h 0)
 |.visit h G=>vl D G&&small D (af G 0)
 |.older h G=>vl D G&&(D.word (af G 2) !=0||tV D s h 0)
 |.maker h G id=>decide (id<=2000)&&small D (D.place id)
 |.ended h G mb=>vl D G&&small D (af G 1)&&(mb !=0||tV D s h G)
 |.gW h G mb id=>decide (id<=2000)&&small D (D.place id)&&qP D s&&(mb !=0||tV D s h G)
 |.seen h G mb=>decide (mb<=2000)&&small D (D.place mb)&&qP D s&&tV (if bz (D.word (D.place mb))=2 then D.tick.bind s mb else D.tick) s h G
 |.again _=>match (D.t s).cell (D.c s).op.F with|some x=>vl D x.own|none=>false
 |.own G=>vl D G&&small D (af G 1)
 |.ib _ _ id=>decide (id<=2000)&&small D (D.place id)
 |.claim G _=>vl D G&&decide (1<=(D.t s).id)&&decide ((D.t s).id<=65535)&&((D.t s).cell (D.c s).op.F).isNone&&decide ((D.t s).keys.length<1000000)&&lh D
 |.fresh G=>Kq D G&&decide ((D.c s).op.F<64)&&lh D
 |.next G _ at_=>Kq D G&&vl D at_&&lh D
 |.free G _ at_=>Kq D G&&vl D at_&&lh D&&small D (af at_ 0)
 |.dM G _ _ id=>Kq D G&&decide (id<=2000)&&small D (D.place id)&&lh D
 |.fB x G head=>vl D G&&decide (1<=(D.t s).id)&&decide ((D.t s).id<=65535)
 |.dZ x G head=>vl D G
 |.push G head=>vl D G
 |.dL G head=>decide ((D.c s).op.F<64)&&((D.t s).cell (D.c s).op.F).isNone&&decide ((D.t s).keys.length<1000000)
 |.over _=>decide ((D.c s).op.F<64)
 |.iq G _=>vl D G
 |.dQ _ _=>decide ((D.c s).op.F<64)&&((D.t s).cell (D.c s).op.F).isSome
 |.draw=>decide (D.word 0<18446744073709551616)
 |.ed x now=>decide (x<18446744073709551616)&&decide (aZ x<=2000)
 |.turn x now=>decide (now<281474976710655)&&decide ((D.t s).id<65536)&&decide (D.aT.length<1000000)
 |.dR=>decide ((D.t s).aA<281474976710656)&&decide ((D.t s).id<=2000)&&decide ((D.t s).reads.length<1000000)
 |.wait i=>match (D.t s).aP[i]? with|some bd=>decide (bd<=2000)&&small D (D.place bd)&&decide ((D.t s).aP.length<1000000)|none=>false
 |.cZ=>decide ((D.t s).aA<=1099511627776)&&decide ((D.t s).id<=2000)&&decide ((D.t s).keys.length<1000000)&&uN D (D.t s)&&decide (D.aT.length<1000000)
 |.abort _ _=>decide ((D.t s).aA<=1099511627776)&&decide (1<=(D.t s).id)&&decide ((D.t s).id<=2000)&&decide ((D.t s).keys.length<1000000)&&uN D (D.t s)&&decide (D.aT.length<1000000)
 |.turns [] r=>true
 |.turns (x::l) r=>decide (x.at_<D.words.length)
theorem fM {D:St} {l:Nat} (h:vl D l=true):VL D l:=by
 unfold vl at h;simp only[il,zd] at h;exact⟨h.1.1,h.1.2,h.2⟩
theorem nU {D:St} {l:Nat} (h:Kq D l=true):l=0∨VL D l:=by
 unfold Kq at h;simp only[qd,beq_iff_eq] at h;exact h.imp id fM
theorem jo {D:St} (hn:D.tags.length=D.aF) (h:lh D=true):iR D:=by
 unfold lh at h;simp only[il,zd,List.all_eq_true] at h;refine⟨h.1.1.1,fun i hi=>by simpa using h.1.1.2 i hi,fun i hi=>?_,h.2⟩;have:(D.tags.getD i (0,false))∈D.tags:=by
  rw[mM,zx (by omega)];exact List.getElem_mem _
 simpa using h.1.2 _ this
theorem xG {D:St} {t:bL} (h:uN D t=true):FH D t:=by
 intro F Z;unfold uN at h;rw[List.all_eq_true] at h;have:=h F Z
 cases hc:t.cell F with
 |none=>rw[hc] at this;cases this
 |some x=>
  rw[hc] at this;simp only[il] at this;exact⟨x,rfl,nU this.1,nU this.2⟩
theorem O7 {l:List (Nat×kP)} {F:Nat} {x:kP} (h:l.lookup F=some x):(F,x)∈l:=by
 induction l with
 |nil=>cases h
 |cons a l ih=>
  obtain⟨k,y⟩:=a;rw[List.lookup_cons] at h
  by_cases Z:F=k
  . subst Z
    simp at h;subst h;exact nK
  . rw[beq_false_of_ne Z] at h
    exact qg _ (ih h)
theorem xH {D:St} {t:bL} (h:uO D t=true):xD D t:=by
 intro F x hx hth;unfold uO at h;rw[List.all_eq_true] at h;have:=h _ (O7 hx);simp only[hth,Bool.not_true,Bool.false_or] at this;exact fM this
theorem eX {D:St} {i:Nat} (h:small D i=true):D.word i<18446744073709551616:=by unfold small at h;simpa using h
theorem l9 (hR:aC A D w) {id:Nat} (h:id<=2000):D.place id<D.words.length:=by rw[hR.nw];unfold St.place;omega
theorem bI {f f':FuncId} {b b' c c':Array Value} (h:Value.func (.func f) b c=.func (.func f') b' c'):f=f'∧b=b'∧c=c':=by
 simp only[Value.func.injEq,Fn.func.injEq] at h;exact h
theorem nD {D:St} {s:Nat} {t:bL} (ht:D.aj.getD s none=some t) {c:dN} (hc:D.calls.getD s none=some c) {hu:dJ} {G:Nat} (h:tV D s hu G=true):wZ D s hu G:=by
 intro A w hR hmp Y f cc r g hth;obtain⟨F,at_,thn⟩:=hu;unfold tV at h;rw[cK ht,bu hc,il,zd] at h;obtain⟨hrl,h⟩:=h
 cases thn<;>simp only[il,zd] at h
 case get=>
  obtain⟨b0,b1,b2,b3,e,k0,k1,k2,k3⟩:=hth;obtain⟨rfl,-,rfl⟩:=bI e;exact Tq r s t ht F G b0 b1 b2 b3 k0 k1 k2 k3 at_ (nU h) hrl
 case scan k=>
  obtain⟨⟨⟨⟨⟨rfl,h1⟩,h2⟩,h3⟩,h4⟩,h5⟩:=h;obtain⟨b0,b1,b2,b3,b4,e,k0,k1,k2,k3,k4⟩:=hth;obtain⟨rfl,-,rfl⟩:=bI e;exact Rs r s t ht c hc k G at_ b0 b1 b2 b3 b4 k0 k1 k2 k3 k4 (nU h1) h2 h3 (xH h4) (by omega) hrl
 case change=>
  obtain⟨b0,b1,b2,b3,e,k0,k1,k2,k3⟩:=hth;obtain⟨rfl,-,rfl⟩:=bI e;exact KU r s t ht c hc F G b0 b1 b2 b3 h k0 k1 k2 k3 at_ hrl
 case judge i l=>
  obtain⟨b0,b1,b2,b3,b4,e,k0,k1,k2,k3,k4⟩:=hth;obtain⟨rfl,-,rfl⟩:=bI e;exact O4 r s t ht i l at_ F G b0 b1 b2 b3 b4 k0 k1 k2 k3 k4 h hrl
theorem LG {D:St} {s tq:Nat} {t:bL} (ht:D.aj.getD s none=some t):∃ t',(D.bind s tq).aj.getD s none=some t':=by
 unfold St.bind;rw[cK ht]
 split
 . exact⟨t,ht⟩
 . exact⟨{t with aP:=t.aP++[tq]},by show (D.bK s _).aj.getD s none=_;rw[dC (dB ht),aV rfl]⟩
theorem Gf (D:St) (s tq:Nat):(D.bind s tq).calls=D.calls:=by unfold St.bind;split<;>rfl
set_option maxHeartbeats 4000000 in
theorem Rv {D:St} {s:Nat} (hs:s<8) {t:bL} (ht:D.aj.getD s none=some t) {c:dN} (hc:D.calls.getD s none=some c) (k:K) (h:Ru D s k=true):Bw D s k:=by
 intro A Y f b cc hR hmp hmt Z;unfold Ru at h;rw[il,zd] at h;obtain⟨Ym,h⟩:=h;have aL:D.count<4000000000000000000:=by omega
 have et:=cK ht;have ec:=bu hc
 cases k
 case fin r=>
  obtain⟨b0,b1,b2,e,k0,k1,k2⟩:=Z;obtain⟨rfl,rfl,rfl⟩:=bI e;exact TW hR s c hc r b0 b1 b2 k0 k1 k2
 case start hu=>
  obtain⟨bh,e,k0⟩:=Z;obtain⟨rfl,rfl,rfl⟩:=bI e;simp only[il,zd,qd,bne_iff_ne] at h;exact NZ hR s hu bh k0 h.1 aL fun hz w2 r2 g2=>nD (D:=D.tick) ht hc (h.2.resolve_left (fun hne=>hne hz)) A w2 r2 hmp
 case visit hu G=>
  obtain⟨b0,b1,e,k0,k1⟩:=Z;obtain⟨rfl,rfl,rfl⟩:=bI e;simp only[et,ec,il,zd,qd,bne_iff_ne,vZ,uz] at h;obtain⟨h1,h2⟩:=h;exact NR hR s t ht hu G b0 b1 k0 k1 (fM h1).lo (fM h1).hi (fM h1).u (eX h2) aL
 case older hu G=>
  obtain⟨b0,b1,e,k0,k1⟩:=Z;obtain⟨rfl,rfl,rfl⟩:=bI e;simp only[et,ec,il,zd,qd,bne_iff_ne,vZ,uz] at h;obtain⟨h1,h2⟩:=h;exact N9 hR s hmp hu G b0 b1 k0 k1 (fM h1) aL (fun hz=>nD (D:=D.tick) ht hc (h2.resolve_left (fun hne=>hne hz)))
 case maker hu G id=>
  obtain⟨b0,b1,b2,e,k0,k1,k2⟩:=Z;obtain⟨rfl,rfl,rfl⟩:=bI e;simp only[et,ec,il,zd,qd,bne_iff_ne,vZ,uz] at h;obtain⟨h1,h2⟩:=h;exact Oa hR s hu G id b0 b1 b2 k0 k1 k2 (by omega) (l9 hR h1) (eX h2) aL
 case ended hu G mb=>
  obtain⟨b0,b1,b2,e,k0,k1,k2⟩:=Z;obtain⟨rfl,rfl,rfl⟩:=bI e;simp only[et,ec,il,zd,qd,bne_iff_ne,vZ,uz] at h;obtain⟨⟨h1,h2⟩,h3⟩:=h;exact Ou hR s hmp t ht hu G mb b0 b1 b2 k0 k1 k2 (fM h1) (eX h2) aL (fun hz=>nD (D:=D.tick) ht hc (h3.resolve_left (fun hne=>hne hz)))
 case gW hu G mb id=>
  obtain⟨b0,b1,b2,b3,e,k0,k1,k2,k3⟩:=Z;obtain⟨rfl,rfl,rfl⟩:=bI e;simp only[et,ec,il,zd,qd,bne_iff_ne,vZ,uz] at h;unfold qP at h;simp only[et,il,zd] at h;obtain⟨⟨⟨h1,h2⟩,h3,h4⟩,h5⟩:=h;exact Oq hR s hmp t ht hu G mb id b0 b1 b2 b3 k0 k1 k2 k3 (by omega) (l9 hR h1) (eX h2) h3 h4 aL (fun hz=>nD (D:=D.tick) ht hc (h5.resolve_left (fun hne=>hne hz)))
 case seen hu G mb=>
  obtain⟨b0,b1,b2,e,k0,k1,k2⟩:=Z;obtain⟨rfl,rfl,rfl⟩:=bI e;simp only[et,ec,il,zd,qd,bne_iff_ne,vZ,uz] at h;unfold qP at h;simp only[et,il,zd] at h;obtain⟨⟨⟨h1,h2⟩,h3,h4⟩,h5⟩:=h;have WL:wZ (if bz (D.word (D.place mb))=2 then D.tick.bind s mb else D.tick) s hu G:=by
   split at h5
   . rename_i hq
     rw[aV hq];obtain⟨t',ht'⟩:=LG (D:=D.tick) (tq:=mb) ht;exact nD ht' (by rw[Gf];exact hc) h5
   . rename_i hq
     rw[aR hq];exact nD (D:=D.tick) ht hc h5
  exact Q0 hR s hmp t ht hu G mb b0 b1 b2 k0 k1 k2 (by omega) (l9 hR h1) (eX h2) h3 h4 aL WL (fun _ _=>trivial)
 case again en=>
  obtain⟨b0,b1,b2,b3,e,k0,k1,k2,k3⟩:=Z;obtain⟨rfl,rfl,rfl⟩:=bI e;simp only[et,ec,il,zd,qd,bne_iff_ne,vZ,uz] at h
  cases hx:t.cell c.op.F with
  |none=>rw[hx] at h;cases h
  |some x=>
  rw[hx] at h
  by_cases hkd:c.op.kind=4
  . exact Dp hR s t ht c hc en x hx (fM h) hkd aL b0 b1 b2 b3 k0 k1 k2 k3
  exact Dq hR s t ht c hc en x hx (fM h) hkd aL b0 b1 b2 b3 k0 k1 k2 k3
 case own G=>
  obtain⟨b0,b1,b2,b3,e,k0,k1,k2,k3⟩:=Z;obtain⟨rfl,rfl,rfl⟩:=bI e;simp only[et,ec,il,zd,qd,bne_iff_ne,vZ,uz] at h;obtain⟨h1,h2⟩:=h;exact Uy hR s t ht G (fM h1) (eX h2) aL b0 b1 b2 b3 k0 k1 k2 k3
 case ib G x1 id=>
  obtain⟨b0,b1,b2,b3,b4,b5,e,k0,k1,k2,k3,k4,k5⟩:=Z;obtain⟨rfl,rfl,rfl⟩:=bI e;simp only[et,ec,il,zd,qd,bne_iff_ne,vZ,uz] at h;obtain⟨h1,h2⟩:=h;exact Lb hR s G x1 id (by omega) (l9 hR h1) (eX h2) aL b0 b1 b2 b3 b4 b5 k0 k1 k2 k3 k4 k5
 case claim G x1=>
  obtain⟨b0,b1,b2,b3,b4,e,k0,k1,k2,k3,k4⟩:=Z;obtain⟨rfl,rfl,rfl⟩:=bI e;simp only[et,ec,il,zd,qd,bne_iff_ne,vZ,uz] at h;obtain⟨⟨⟨⟨⟨h1,h2⟩,h3⟩,h4⟩,h5⟩,h6⟩:=h;exact Ol hR s t ht c hc hmp G x1 (fM h1) h2 h3 h4 h5 (jo hR.nt h6) aL b0 b1 b2 b3 b4 k0 k1 k2 k3 k4
 case fresh G=>
  obtain⟨b0,b1,b2,b3,e,k0,k1,k2,k3⟩:=Z;obtain⟨rfl,rfl,rfl⟩:=bI e;simp only[et,ec,il,zd,qd,bne_iff_ne,vZ,uz] at h;obtain⟨⟨h1,h2⟩,h3⟩:=h;exact NW hR s c hc G (nU h1) h2 hmp (jo hR.nt h3) aL b0 b1 b2 b3 k0 k1 k2 k3
 case next G hd at_=>
  obtain⟨b0,b1,b2,b3,b4,b5,e,k0,k1,k2,k3,k4,k5⟩:=Z;obtain⟨rfl,rfl,rfl⟩:=bI e;simp only[et,ec,il,zd,qd,bne_iff_ne,vZ,uz] at h;obtain⟨⟨h1,h2⟩,h3⟩:=h;exact QL hR s c hc G hd at_ (nU h1) (fM h2) hmp (jo hR.nt h3) aL b0 b1 b2 b3 b4 b5 k0 k1 k2 k3 k4 k5
 case free G hd at_=>
  obtain⟨b0,b1,b2,b3,b4,b5,e,k0,k1,k2,k3,k4,k5⟩:=Z;obtain⟨rfl,rfl,rfl⟩:=bI e;simp only[et,ec,il,zd,qd,bne_iff_ne,vZ,uz] at h;obtain⟨⟨⟨h1,h2⟩,h3⟩,h4⟩:=h;exact Rq hR s t ht G hd at_ (nU h1) (fM h2) (jo hR.nt h3) (eX h4) aL b0 b1 b2 b3 b4 b5 k0 k1 k2 k3 k4 k5
 case dM G hd at_ id=>
  obtain⟨b0,b1,b2,b3,b4,b5,e,k0,k1,k2,k3,k4,k5⟩:=Z;obtain⟨rfl,rfl,rfl⟩:=bI e;simp only[et,ec,il,zd,qd,bne_iff_ne,vZ,uz] at h;obtain⟨⟨⟨h1,h2⟩,h3⟩,h4⟩:=h;exact Je hR s t ht G hd at_ id (nU h1) (by omega) (l9 hR h2) (eX h3) (jo hR.nt h4) aL b0 b1 b2 b3 b4 b5 k0 k1 k2 k3 k4 k5
 case fB x G hd=>
  obtain⟨b0,b1,b2,b3,b4,b5,e,k0,k1,k2,k3,k4,k5⟩:=Z;obtain⟨rfl,rfl,rfl⟩:=bI e;simp only[et,ec,il,zd,qd,bne_iff_ne,vZ,uz] at h;obtain⟨⟨h1,h2⟩,h3⟩:=h;exact NT hR s t ht b0 b1 b2 b3 b4 b5 x G hd k0 k1 k2 k3 k4 k5 aL (fM h1) h2 h3
 case dZ x G hd=>
  obtain⟨b0,b1,b2,b3,b4,b5,e,k0,k1,k2,k3,k4,k5⟩:=Z;obtain⟨rfl,rfl,rfl⟩:=bI e;exact Oi hR s t ht x G hd aL (fM h) b0 b1 b2 b3 b4 b5 k0 k1 k2 k3 k4 k5
 case push G hd=>
  obtain⟨b0,b1,b2,b3,b4,e,k0,k1,k2,k3,k4⟩:=Z;obtain⟨rfl,rfl,rfl⟩:=bI e;exact QK hR s t ht b0 b1 b2 b3 b4 G hd k0 k1 k2 k3 k4 aL (fM h)
 case dL G hd=>
  obtain⟨b0,b1,b2,b3,b4,e,k0,k1,k2,k3,k4⟩:=Z;obtain⟨rfl,rfl,rfl⟩:=bI e;simp only[et,ec,il,zd,qd,bne_iff_ne,vZ,uz] at h;obtain⟨⟨h1,h2⟩,h3⟩:=h;exact N8 hR s t ht c hc G hd h1 h2 h3 aL b0 b1 b2 b3 b4 k0 k1 k2 k3 k4
 case over G=>
  obtain⟨b0,b1,b2,b3,b4,e,k0,k1,k2,k3,k4⟩:=Z;obtain⟨rfl,rfl,rfl⟩:=bI e;simp only[et,ec,il,zd,qd,bne_iff_ne,vZ,uz] at h;exact QX hR s c hc G h aL b0 b1 b2 b3 b4 k0 k1 k2 k3 k4
 case iq G hd=>
  obtain⟨b0,b1,b2,b3,b4,b5,e,k0,k1,k2,k3,k4,k5⟩:=Z;obtain⟨rfl,rfl,rfl⟩:=bI e;exact NU hR s t ht b0 b1 b2 b3 b4 b5 G hd k0 k1 k2 k3 k4 k5 aL (fM h)
 case dQ G hd=>
  obtain⟨b0,b1,b2,b3,b4,b5,e,k0,k1,k2,k3,k4,k5⟩:=Z;obtain⟨rfl,rfl,rfl⟩:=bI e;simp only[et,ec,il,zd,qd,bne_iff_ne,vZ,uz] at h;obtain⟨h1,x,hx⟩:=h;exact Oo hR s t ht c hc G hd h1 x hx aL b0 b1 b2 b3 b4 b5 k0 k1 k2 k3 k4 k5
 case draw=>
  obtain⟨b0,b1,b2,e,k0,k1,k2⟩:=Z;obtain⟨rfl,rfl,rfl⟩:=bI e;simp only[et,ec,il,zd,qd,bne_iff_ne,vZ,uz] at h;exact QV hR s h aL b0 b1 b2 k0 k1 k2
 case ed x now=>
  obtain⟨b0,b1,b2,e,k0,k1,k2⟩:=Z;obtain⟨rfl,rfl,rfl⟩:=bI e;simp only[et,ec,il,zd,qd,bne_iff_ne,vZ,uz] at h;obtain⟨h1,h2⟩:=h;exact Oj hR s x now h1 h2 aL b0 b1 b2 k0 k1 k2
 case turn x now=>
  obtain⟨b0,b1,b2,b3,b4,e,k0,k1,k2,k3,k4⟩:=Z;obtain⟨rfl,rfl,rfl⟩:=bI e;simp only[et,ec,il,zd,qd,bne_iff_ne,vZ,uz] at h;obtain⟨⟨h1,h2⟩,h3⟩:=h;exact QW hR s t ht x now h1 h2 h3 aL b0 b1 b2 b3 b4 k0 k1 k2 k3 k4
 case dR=>
  obtain⟨b0,b1,b2,e,k0,k1,k2⟩:=Z;obtain⟨rfl,rfl,rfl⟩:=bI e;simp only[et,ec,il,zd,qd,bne_iff_ne,vZ,uz] at h;obtain⟨⟨h1,h2⟩,h3⟩:=h;exact OD hR s t ht h1 h2 h3 aL b0 b1 b2 k0 k1 k2
 case wait i=>
  obtain⟨b0,b1,b2,b3,b4,e,k0,k1,k2,k3,k4⟩:=Z;obtain⟨rfl,rfl,rfl⟩:=bI e;simp only[et,ec,il,zd,qd,bne_iff_ne,vZ,uz] at h
  cases hb:t.aP[i]? with
  |none=>rw[hb] at h;cases h
  |some bd=>
  rw[hb] at h;simp only[il,zd] at h;obtain⟨⟨h1,h2⟩,h3⟩:=h;exact QY hR s t ht c hc i bd hb h3 (by omega) (l9 hR h1) (eX h2) aL b0 b1 b2 b3 b4 k0 k1 k2 k3 k4
 case cZ=>
  obtain⟨b0,b1,b2,e,k0,k1,k2⟩:=Z;obtain⟨rfl,rfl,rfl⟩:=bI e;simp only[et,ec,il,zd,qd,bne_iff_ne,vZ,uz] at h;obtain⟨⟨⟨⟨h1,h2⟩,h3⟩,h4⟩,h5⟩:=h;exact Le hR s t ht hmt h1 h2 h3 (xG h4) h5 aL b0 b1 b2 k0 k1 k2
 case abort er re=>
  obtain⟨b0,b1,b2,b3,b4,e,k0,k1,k2,k3,k4⟩:=Z;obtain⟨rfl,rfl,rfl⟩:=bI e;simp only[et,ec,il,zd,qd,bne_iff_ne,vZ,uz] at h;obtain⟨⟨⟨⟨⟨h1,h2⟩,h3⟩,h4⟩,h5⟩,h6⟩:=h;exact OY hR s t ht hmt er re h1 h2 h3 h4 (xG h5) h6 aL b0 b1 b2 b3 b4 k0 k1 k2 k3 k4
 case turns l r=>
  cases l with
  |nil=>
   obtain⟨b0,b1,b2,b3,e,k0,k1,k2,k3⟩:=Z;obtain⟨rfl,rfl,rfl⟩:=bI e;exact Lc hR s t ht c hc r hs aL b0 b1 b2 b3 k0 k1 k2 k3
  |cons x l=>
   obtain⟨b0,b1,b2,b3,b4,e,k0,k1,k2,k3,k4⟩:=Z;obtain⟨rfl,rfl,rfl⟩:=bI e;simp only[zd] at h;exact Ld hR s c hc x l r h aL b0 b1 b2 b3 b4 k0 k1 k2 k3 k4
def nV (D:St) (s:Nat):Bool:=match (D.c s).op.kind with
 |6=>true
 |7=>true
 |1=>match (D.t s).cell (D.c s).op.F with|none=>true|some x=>!x.there||vl D x.own
 |5=>decide ((D.c s).op.F<=63)&&decide ((D.c s).op.hi<=63)&&uO D (D.t s)&&decide ((D.c s).r.aO.length<90000)
 |2=>qQ D s
 |3=>qQ D s
 |4=>qQ D s
 |_=>false
 where qQ (D:St) (s:Nat):Bool:=match (D.t s).cell (D.c s).op.F with|none=>true|some _=>decide (1<=(D.t s).id)&&decide ((D.t s).id<=65535)&&lh D
theorem Iw {D:St} {s:Nat} {t:bL} (ht:D.aj.getD s none=some t) {c:dN} (hc:D.calls.getD s none=some c) (h:nV D s=true):BD D s:=by
 intro A w hR hmp;have et:=cK ht;have ec:=bu hc;unfold nV nV.qQ at h;rw[et,ec] at h;have hret:∀ r,∀ e E,bE A w s r e E->∃ v,e=.returned v:=fun r e E ⟨_,v,hv,_⟩=>⟨v,hv⟩
 refine Du hR s c hc _ (fun Z=>?_) (fun Z=>?_) (fun Z=>?_) (fun Z=>?_) (fun k1 k5 k6 k7=>?_) (hret _)
 . rw[Z] at h
   simp only at h
   cases hx:t.cell c.op.F with
   |none=>
    have e:D.first s=(D,.start ⟨c.op.F,t.aJ,.get⟩):=by unfold St.first;rw[ec,et];simp only[Z,hx]
    rw[e];exact get_none hR s t ht c hc hx
   |some x=>
    rw[hx] at h;have e:D.first s=(D,if x.there then .fin {value:=D.valueOf x.own} else .fin {e:=11}):=by unfold St.first;rw[ec,et];simp only[Z,hx]
    rw[e]
    cases hth:x.there with
    |true=>
     simp only[hth,Bool.not_true,Bool.false_or] at h;rw[aV rfl];exact Jz hR s t ht c hc x hx hth (fM h)
    |false=>
     rw[aR (by decide)];exact LD hR s t ht c hc x hx hth
 . rw[Z] at h
   simp only[il,zd] at h;obtain⟨⟨⟨h1,h2⟩,h3⟩,h4⟩:=h;have e:D.first s=D.scan s c.op.F:=by unfold St.first;rw[ec];simp only[Z]
   rw[e];exact xE hR s t ht c hc c.op.F (by omega) h2 (xH h3) (by omega)
 . have e:D.first s=(D,.draw):=by unfold St.first;rw[ec];simp only[Z]
   rw[e];exact CK hR s
 . have e:D.first s=(D,.abort 0 1):=by unfold St.first;rw[ec];simp only[Z]
   rw[e];exact jC hR s 0 1
 . have hx:(match t.cell c.op.F with|none=>true|some _=>decide (1<=t.id)&&decide (t.id<=65535)&&lh D)=true∧(c.op.kind=2∨c.op.kind=3∨c.op.kind=4):=by
    split at h
    . omega
    . omega
    . omega
    . omega
    . rename_i Z;exact⟨h,.inl Z⟩
    . rename_i Z;exact⟨h,.inr (.inl Z)⟩
    . rename_i Z;exact⟨h,.inr (.inr Z)⟩
    . cases h
   obtain⟨hx1,hkk⟩:=hx
   cases hx:t.cell c.op.F with
   |none=>
    have e:D.first s=(D,.start ⟨c.op.F,t.aJ,.change⟩):=by
     rcases hkk with Z|Z|Z<;>(unfold St.first;rw[ec,et];simp only[Z,hx])
    rw[e];exact Dt hR s t ht c hc hx
   |some x=>
    rw[hx] at hx1;simp only[il,zd] at hx1;have e:D.first s=rU D s t x c.op.kind:=by
     rcases hkk with Z|Z|Z<;>(unfold St.first rU;rw[ec,et];simp only[Z,hx])
    rw[e];exact DT hR s t ht c hc hmp x hx hx1.1.1 hx1.1.2 (jo hR.nt hx1.2)
def jL (D aD:St) (s:Nat):Bool:=decide (D.calls.length=8)&&decide (aD.calls.length=8)&&(List.range 8).all fun q=>q==s||decide (aD.calls.getD q none=D.calls.getD q none)
theorem tX {D aD:St} {s:Nat} (h:jL D aD s=true):∀ q,q≠s->aD.calls.getD q none=D.calls.getD q none:=by
 intro q hq;unfold jL at h;simp only[il,zd,List.all_eq_true,List.mem_range,qd,beq_iff_eq] at h
 by_cases h8:q<8
 . exact (h.2 q h8).resolve_left hq
 . simp[mM,Cx (show aD.calls.length<=q by omega),Cx (show D.calls.length<=q by omega)]
def ll (D:St) (s:Nat) (aD:St) (ok:Option K) (c2:dN):Option (St×Nat×oZ):=
 match ok with
 |some k'=>if c2.over=false then some ({aD.aK s {c2 with k:=some k'} with aI:=aD.aI+(aD.count - D.count)},if c2.waits then 2 else 1,{}) else none
 |none=>
  if c2.waits=false∧c2.over=true∧c2.r.aO.length<=1000000 then
   if c2.r.over=0 then
    match aD.aj.getD s none with
    |some t2=>if aD.aT.length<1000000 then some (({aD.aK s {c2 with k:=none} with aI:=aD.aI+(aD.count - D.count),calls:=(aD.aK s {c2 with k:=none}).calls.set s none}:St).event {kind:=2,t:=t2.id,op:=c2.op,res:=c2.r},3,c2.r) else none
    |none=>none
   else if c2.r.aO=[] then some ({aD.aK s {c2 with k:=none} with aI:=aD.aI+(aD.count - D.count),calls:=(aD.aK s {c2 with k:=none}).calls.set s none,aj:=aD.aj.set s none},3,c2.r) else none
  else none
def jg (D:St) (s:Nat):Option (St×Nat×oZ):=
 match D.aj.getD s none,D.calls.getD s none with
 |some t,some c=>
  match c.k with
  |some k=>
   match (D.aK s {c with waits:=false}).run s k with
   |(aD,ok)=>
    match aD.calls.getD s none with
    |some c2=>
     if Ru (D.aK s {c with waits:=false}) s k=true∧jL D aD s=true∧D.count<=aD.count∧aD.count - D.count<1000000∧aD.aI<1000000000000000000∧D.count<3000000000000000000 then ll D s aD ok c2 else none
    |none=>none
  |none=>none
 |_,_=>none
theorem xI (hL:Live A D w) {s:Nat} (hs:s<8) {bB:St} {kd:Nat} {r:oZ} (h:jg D s=some (bB,kd,r)):
 zk 34 #[R A.H 0,I s] w (Stepped A w bB (kd:Int) r):=by
 unfold jg at h
 split at h
 . rename_i t c ht hc
   split at h
   . rename_i k Z
     split at h
     rename_i aD ok aX
     split at h
     . rename_i c2 hc2
       split at h
       . rename_i hh
         obtain⟨h1,h2,h3,h4,h5,h6⟩:=hh;have hc1:(D.aK s {c with waits:=false}).calls.getD s none=some {c with waits:=false}:=by rw[dm (bP hc),aV rfl]
         have WM:=Rv hs (D:=D.aK s {c with waits:=false}) (t:=t) ht hc1 k h1;have hdl:aD.count=D.count+(aD.count - D.count):=by omega
         have hcq:=tX h2;unfold ll at h
         cases ok with
         |some k'=>
          simp only at h
          split at h
          . rename_i hov
            simp only[Option.some.injEq,iQ] at h;obtain⟨rfl,rfl,rfl⟩:=h;have:=OO hL s hs t ht c hc k Z h6 aD _ aX WM c2 hc2 _ hdl h4 h5 hcq k' rfl hov
            cases hw:c2.waits<;>(rw[hw] at this;simpa [hw] using this)
          . cases h
         |none=>
          simp only at h
          split at h
          . rename_i hh
            obtain⟨hw,hov,hpr⟩:=hh
            split at h
            . rename_i hro
              split at h
              . rename_i t2 ht2
                split at h
                . rename_i htl
                  simp only[Option.some.injEq,iQ] at h;obtain⟨rfl,rfl,rfl⟩:=h;exact FY hL s hs t ht c hc k Z h6 aD _ aX WM c2 hc2 _ hdl h4 h5 hcq t2 ht2 htl rfl hw hov hpr hro
                . cases h
              . cases h
            . rename_i hro
              split at h
              . rename_i hpe
                simp only[Option.some.injEq,iQ] at h;obtain⟨rfl,rfl,rfl⟩:=h;exact qO hL s hs t ht c hc k Z h6 aD _ aX WM c2 hc2 _ hdl h4 h5 hcq rfl hw hov hpe hro
              . cases h
          . cases h
       . cases h
     . cases h
   . cases h
 . cases h
def tY (n:Int):Int:=min (max n 0) 1000
def wJ (n c:Int):Int:=wrap64 (wrap64 (400*(tY n+1)*(tY c+64))*(tY n+4))
theorem Ac {n:Int} (h:n<0):tY n=0:=by unfold tY;omega
theorem Ad {n:Int} (h:0<=n) (h2:(if n<0 then 0 else n)<=1000):tY n=n:=by rw[aR (by omega)] at h2;unfold tY;omega
theorem xJ {n:Int} (h:0<=n) (h2:1000<(if n<0 then 0 else n)):tY n=1000:=by rw[aR (by omega)] at h2;unfold tY;omega
theorem JD (n c:Int) (w:World):zk 51 #[I n,I c] w fun e E=>e=.returned (I (wJ n c))∧w=E:=by
 go_enter Tryz.func51,Tryz.ntmps51;go_wp2
 all_goals (go_ret;refine⟨?_,rfl⟩;unfold wJ;first|(rw[Ac (n:=n) (by assumption)])|(rw[Ad (n:=n) (by assumption) (by assumption)])|(rw[xJ (n:=n) (by assumption) (by assumption)]))
 all_goals (first|(rw[Ac (n:=c) (by assumption)];rfl)|(rw[Ad (n:=c) (by assumption) (by assumption)];rfl)|(rw[xJ (n:=c) (by assumption) (by assumption)];rfl))
theorem Live.world {A:au} {D:St} {w E:World} (hL:Live A D w) (r:aC A D E) (g:Grow A.L w A.L E):Live A D E:=
 ⟨r,hL.mp,hL.mt,fun s h c hc=>let ⟨e1,k,e2,e3⟩:=hL.call s h c hc;⟨e1,k,e2,e3.grow g⟩,hL.idle,hL.sx.keep rfl ⟨rfl,rfl⟩ g⟩
theorem Live.alloc (hL:Live A D w) (o:Obj):Live A D (w.alloc o):=hL.world (hL.rep.alloc _) (Grow.alloc _ _ _)
theorem Live.below {A:au} {D:St} {w E:World} (hL:Live A D w) (h:Below w.heap.size w E):Live A D E:=hL.world (hL.rep.below h) (Grow.below h)
theorem Live.rT (hL:Live A D w) (o:Obj):Live (A.tmp w.heap.size) D (w.alloc o):=
 let ⟨r,g,_,_⟩:=hL.rep.rT o
 ⟨r,hL.mp,hL.mt,fun s h c hc=>let ⟨e1,k,e2,e3⟩:=hL.call s h c hc;⟨e1,k,e2,(show ny (kp A D s) (A.tmp w.heap.size).L (w.alloc o) (A.bA s) k from e3.grow g)⟩,hL.idle,hL.sx.keep rfl ⟨rfl,rfl⟩ g⟩
theorem Live.but {A:au} {D:St} {w E:World} {b:Nat} (hL:Live A D w) (hl:A.L b=some .tmp) (h:But b w E):Live A D E:=
 ⟨hL.rep.but hl h,hL.mp,hL.mt,fun s hs c hc=>let ⟨e1,k,e2,e3⟩:=hL.call s hs c hc;⟨e1,k,e2,e3.soft (h.soft hl)⟩,hL.idle,hL.sx.soft rfl (h.soft hl)⟩
def O8 (D:St) (s:Nat) (o:En.Op) (aH:St) (err:Nat):Prop:=∀ A w,Live A D w->zk 33 #[R A.H 0,I s,.agg #[I o.kind,I o.F,I o.hi,I o.value]] w (BF A w aH (err:Int))
theorem uP {L:dE} {w:World} {size:Nat} {v:Value} {xs:List Value} (h:dS L w size v xs):∃ a n cap,v=.slice a n cap:=let ⟨a,n,cap,e,_⟩:=h;⟨a,n,cap,e⟩
end Go.Proofs.YthicolbbmjfkfaaGreat.Em
