import Derived.Test.YthicolbbmjfkfaaGreatQf6
import Derived.Laws.MakeOwn
set_option linter.unusedVariables false
set_option linter.unusedSimpArgs false
set_option maxRecDepth 100000
set_option maxHeartbeats 1600000
namespace Go.Proofs.YthicolbbmjfkfaaGreat.Em
open En
def uO (D τ:St):Prop:=τ.sw=D.sw∧τ.cut=D.cut
theorem uO.trans {D τ υ:St} (h:uO D τ) (k:uO τ υ):uO D υ:=⟨k.1.trans h.1,k.2.trans h.2⟩
theorem kQ (D:St) (i o v:Nat):uO D (D.cB i o v):=by unfold St.cB;split<;>exact⟨rfl,rfl⟩
theorem vJ (D:St) (w:Nat):uO D (D.dw w):=kQ _ _ _ _
theorem GV (D:St) (s tq:Nat):uO D (D.bind s tq):=by unfold St.bind;split<;>exact⟨rfl,rfl⟩
theorem NI (D:St):uO D D.list:=by unfold St.list;split<;>exact⟨rfl,rfl⟩
theorem NJ (D:St):uO D D.take.1:=by unfold St.take;simp only;split<;>exact NI D
theorem NK (D:St) (l:Nat):uO D (D.give l):=by
 unfold St.give
 split
 . simp only
   split<;>exact⟨rfl,rfl⟩
 . exact⟨rfl,rfl⟩
theorem GY (s n:Nat):∀ (D:St) (F:Nat),uO D (iH s n D F).1:=by
 induction n with
 |zero=>intro D F;exact⟨rfl,rfl⟩
 |succ n ih=>
  intro D F;unfold iH
  split
  . exact⟨rfl,rfl⟩
  . split
    . rename_i x _
      refine uO.trans ?_ (ih _ (F+1))
      split<;>exact⟨rfl,rfl⟩
    . exact⟨rfl,rfl⟩
theorem AA (D:St) (s:Nat) (x:Bool) (G head:Nat):uO D (D.slot s x G head).1:=by
 unfold St.slot
 by_cases h:G=0
 . rw[aW h]
   have:=NJ D
   cases e:D.take with
   |mk τ o=>
    rw[e] at this
    cases o<;>exact this
 . rw[bu h];exact⟨rfl,rfl⟩
theorem AB (D:St) (s:Nat) (h:dR) (G:Nat):uO D (D.thn s h G).1:=by
 unfold St.thn
 split
 . simp only;split<;>exact⟨rfl,rfl⟩
 . simp only
   unfold St.scan;refine uO.trans ?_ (GY _ _ _ _)
   split<;>exact⟨rfl,rfl⟩
 . simp only
   split
   . exact⟨rfl,rfl⟩
   split
   . exact⟨rfl,rfl⟩
   split<;>exact⟨rfl,rfl⟩
 . split<;>exact⟨rfl,rfl⟩
theorem CO (D:St) (s:Nat) (h:dR) (G:Nat):uO D (D.visit s h G).1:=by unfold St.visit;split;exact AB _ _ _ _;exact⟨rfl,rfl⟩
theorem GZ (D:St) (s:Nat) (h:dR) (G mb:Nat):uO D (D.seen s h G mb).1:=by unfold St.seen;split;exact AB _ _ _ _;exact⟨rfl,rfl⟩
theorem CP (D:St) (s G head at_:Nat):uO D (D.jk s G head at_).1:=by unfold St.jk;split;exact AA _ _ _ _ _;exact⟨rfl,rfl⟩
theorem G5 (D:St) (G:Nat):uO D (D.lost G).1:=by unfold St.lost;split;exact NK _ _;exact⟨rfl,rfl⟩
theorem wD (D:St) (s:Nat) (e:Ev):uO D (D.dI s e):=by unfold St.dI;split<;>exact⟨rfl,rfl⟩
theorem EX (D:St) (s:Nat) (k:K):uO D (D.run s k).1:=by
 have r0:uO D D:=⟨rfl,rfl⟩
 cases k
 case turns l r=>
  cases l with
  |nil=>exact r0
  |cons x l=>simp only[St.run];split;exact r0;exact kQ _ _ _ _
 case start h=>exact CO D.tick s h _
 case older h G=>exact CO D.tick s h _
 case ended h G mb=>
  simp only[St.run]
  split
  . exact r0
  split
  . exact GZ D.tick s h G mb
  . exact r0
 case ik h G mb id=>
  simp only[St.run]
  split
  . exact GZ D.tick s h G mb
  split
  . exact GV D.tick s id
  . exact r0
 case seen h G mb=>
  simp only[St.run]
  split
  . exact r0
  . split
    . exact (GV D.tick s mb).trans (AB _ _ _ _)
    . exact AB D.tick _ _ _
 case claim G w=>
  simp only[St.run]
  split
  . exact kQ _ _ _ _
  split
  . exact kQ D _ _ _
  . refine uO.trans (kQ D (af G 1) w (mine (D.t s))) (uO.trans ?_ (AA _ _ _ _ _))
    exact⟨rfl,rfl⟩
 case fresh G=>exact CP D.tick s _ _ _
 case next G head at_=>exact CP D.tick s _ _ _
 case free G head at_=>
  simp only[St.run]
  split
  . exact r0
  split
  . exact G5 D.tick _
  . exact r0
 case dX G head at_ id=>
  simp only[St.run]
  split
  . exact r0
  . exact G5 D.tick _
 case dV G head=>
  simp only[St.run]
  split
  . exact kQ _ _ _ _
  . exact kQ _ _ _ _
 case eu G head=>
  simp only[St.run]
  split
  . exact kQ _ _ _ _
  . exact kQ _ _ _ _
 case turn w now=>
  simp only[St.run]
  split
  . exact kQ _ _ _ _
  . exact kQ D _ _ _
 case eX w now=>exact vJ _ _
 case eB=>exact vJ _ _
 case cZ=>exact wD (D.put _ _) s _
 case abort e r=>exact wD (D.put _ _) s _
 case again e=>
  simp only[St.run]
  split<;>exact⟨rfl,rfl⟩
 all_goals (simp only[St.run];(repeat' split)<;>exact⟨rfl,rfl⟩)
theorem CQ (D:St) (s:Nat):uO D (D.first s).1:=by
 have r0:uO D D:=⟨rfl,rfl⟩
 unfold St.first;simp only
 split
 . split<;>exact r0
 . exact GY _ _ _ _
 . exact r0
 . exact r0
 . split
   . split
     . exact r0
     split
     . exact r0
     split
     . exact AA _ _ _ _ _
     . exact r0
   . exact r0
end Go.Proofs.YthicolbbmjfkfaaGreat.Em
namespace Go.Proofs.YthicolbbmjfkfaaGreat.Em
open Go.ChangeShapes Go.WideShapes Go.ChangeAt Go.RowKit En
theorem fQ (s:Nat) (hs:s<8) (w:World):zk 40 #[I s] w fun e E=>e=.returned (.bool true)∧w=E:=by
 have h1:(0:Int)<=(s:Int):=by omega
 have h2:(s:Int)<8:=by omega
 have h3:decide ((0:Int)<=(s:Int))=true:=by simp
 have h4:decide ((s:Int)<8)=true:=by simp;omega
 have h5:(s<8)=True:=by simpa using hs
 go_enter Tryz.func40,Tryz.ntmps40;go_wp2;go_ret;exact⟨rfl,rfl⟩
structure Live (A:az) (D:St) (w:World):Prop where
 rep:aF A D w
 mp:A.mp=0
 mt:∀ s,A.mt s=0
 call:∀ s,s<8->∀ c,D.calls.getD s none=some c->A.bH s=ptr (A.bc s)∧∃ k,c.k=some k∧nY (kp A D s) A.L w (A.bE s) k
 idle:∀ s,s<8->D.calls.getD s none=none->A.bH s=.pointer none
 sx:uM A D w
structure yV (A A':az) (s:Nat):Prop where
 bf:A'.Gz=A.Gz
 mp:A'.mp=A.mp
 mt:A'.mt=A.mt
 bt:∀ q,q≠s->A'.bt q=A.bt q
 bc:∀ q,q≠s->A'.bc q=A.bc q
 bx:∀ q,q≠s->A'.bx q=A.bx q
 aX:∀ q,q≠s->A'.aX q=A.aX q
 bE:∀ q,q≠s->A'.bE q=A.bE q
 bH:∀ q,q≠s->A'.bH q=A.bH q
theorem yV.V {A A':az} {s:Nat} (h:yV A A' s):A'.V=A.V:=Ar h.bf
theorem Live.of {A A':az} {D bF:St} {w E:World} {s:Nat} (hL:Live A D w) (hsw:bF.sw=D.sw∧bF.cut=D.cut) (r:aF A' bF E) (g:Grow A.L w A'.L E) (st:yV A A' s) (hq:∀ q,q≠s->bF.calls.getD q none=D.calls.getD q none)
 (h1:∀ c,bF.calls.getD s none=some c->A'.bH s=ptr (A'.bc s)∧∃ k,c.k=some k∧nY (kp A' bF s) A'.L E (A'.bE s) k) (h2:bF.calls.getD s none=none->A'.bH s=.pointer none):Live A' bF E:=by
 refine⟨r,st.mp.trans hL.mp,fun q=>by rw[st.mt];exact hL.mt q,fun q hq8 c hc=>?_,fun q hq8 hc=>?_,hL.sx.keep st.bf hsw g⟩
 . by_cases h:q=s
   . subst h;exact h1 c hc
   . have hc0:=(hq q h).symm.trans hc
     obtain⟨e1,k,e2,e3⟩:=hL.call q hq8 c hc0;have ek:kp A' bF q=kp A D q:=by
      unfold kp;rw[st.V,st.bt q h,st.bc q h,st.bx q h,st.aX q h,bC hc,bC hc0]
     refine⟨by rw[st.bH q h,st.bc q h];exact e1,k,e2,?_⟩;rw[ek,st.bE q h];exact e3.grow g
 . by_cases h:q=s
   . subst h;exact h2 hc
   . rw[st.bH q h]
     exact hL.idle q hq8 ((hq q h).symm.trans hc)
theorem nY.enter {p:KP} {L:eH} {w:World} {v:Value} {k:K} (h:nY p L w v k):∃ f b c,v=.func (.func f) b c∧∀ args w,(callFunc f args).run Tryz.prog w=.ok (.enter f args) w:=by
 cases k<;>first
  |(obtain⟨b0,e,_⟩:=h;exact⟨_,_,_,e,fun args w=>by kernel_rfl⟩)
  |(obtain⟨b0,b1,e,_⟩:=h;exact⟨_,_,_,e,fun args w=>by kernel_rfl⟩)
  |(obtain⟨b0,b1,b2,e,_⟩:=h;exact⟨_,_,_,e,fun args w=>by kernel_rfl⟩)
  |(obtain⟨b0,b1,b2,b3,e,_⟩:=h;exact⟨_,_,_,e,fun args w=>by kernel_rfl⟩)
  |(obtain⟨b0,b1,b2,b3,b4,e,_⟩:=h;exact⟨_,_,_,e,fun args w=>by kernel_rfl⟩)
  |(obtain⟨b0,b1,b2,b3,b4,b5,e,_⟩:=h;exact⟨_,_,_,e,fun args w=>by kernel_rfl⟩)
  | (rename_i l r; cases l
     . obtain⟨b0,b1,b2,b3,e,_⟩:=h;exact⟨_,_,_,e,fun args w=>by kernel_rfl⟩
     . obtain⟨b0,b1,b2,b3,b4,e,_⟩:=h;exact⟨_,_,_,e,fun args w=>by kernel_rfl⟩)
def Stepped (A:az) (w:World) (bF:St) (kind:Int) (r:mo):Ending->World->Prop:=fun e E=>∃ A' vp,e=.returned (.tuple #[.agg #[I kind,I r.e,I r.value,vp,I r.over,I r.aI],I 0])∧iJ A'.L E 2 vp (bQ r.aL)∧Live A' bF E∧Grow A.L w A'.L E∧A'.V=A.V
def AJ (aC:St) (s:Nat) (k:K):Prop:=∀ A H f b c,aF A aC H->A.mp=0->A.mt s=0->nY (kp A aC s) A.L H (.func (.func f) b c) k->zk f (b++c) H (lF A H s (aC.run s k))
theorem NL {A:az} {D:St} {w:World} (hL:Live A D w) (s:Nat) (hs:s<8) (t:bL) (ht:D.ai.getD s none=some t) (c:dY) (hc:D.calls.getD s none=some c) (k:K) (Y:c.k=some k) (aN:D.count<3000000000000000000) (aK:St) (ok:Option K) (aU:(D.aM s {c with waits:=false}).run s k=(aK,ok)) (HS:AJ (D.aM s {c with waits:=false}) s k) (c2:dY) (hc2:aK.calls.getD s none=some c2) (dl:Nat) (hdl:aK.count=D.count+dl) (hd1:dl<1000000) (hlk:aK.aA<1000000000000000000) (hcq:∀ q,q≠s->aK.calls.getD q none=D.calls.getD q none) (k':K) (hok:ok=some k') (hov:c2.over=false):
 zk 34 #[R A.V 0,I s] w (Stepped A w ({aK.aM s {c2 with k:=ok} with aA:=aK.aA+dl}) (if c2.waits then 2 else 1) {}):=by
 have MO:Hid (aK.sw=D.sw∧aK.cut=D.cut):=U (by have h:=EX (D.aM s {c with waits:=false}) s k;rw[aU] at h;exact h);obtain⟨Q,hQ⟩:∃ Q,Q=Stepped A w ({aK.aM s {c2 with k:=ok} with aA:=aK.aA+dl}) (if c2.waits then 2 else 1) {}:=⟨_,rfl⟩
 rw[<-hQ];have HQ:=U hQ;clear hQ;obtain⟨r0,g0,fl,fh⟩:=hL.rep.o5 (.cells #[I 0,I 0,I 0,.slice none 0 0,I 0,I 0] 81);obtain⟨tL,k0,hk0,hkr⟩:=hL.call s hs c hc;obtain rfl:k=k0:=by rw[Y] at hk0;exact zj hk0
 obtain⟨fv,fb,fc,yX,hent⟩:=hkr.enter;have gG:=U (fQ s hs);have b1:(s:Int)<8:=by omega
 have b0:(0:Int)<=(s:Int):=by omega
 have v0:(w.alloc (.cells #[I 0,I 0,I 0,.slice none 0 0,I 0,I 0] 81)).cell? (J A.V (13+s))=zs (A.bc s) 0:=by rw[<-show A.bH s=R (A.bc s) 0 from tL];exact r0.bT (13+s) (ed (A.tmp w.heap.size) D hs)
 have v1:(w.alloc (.cells #[I 0,I 0,I 0,.slice none 0 0,I 0,I 0] 81)).cell? (J A.V (5+s))=zs (A.bt s) 0:=by
  have h:=r0.bT (5+s) (dQ (A.tmp w.heap.size) D hs);have e:(A.tmp w.heap.size).tp D s=R (A.bt s) 0:=by unfold az.tp;rw[ht];rfl
  rw[e] at h;exact h
 obtain⟨aC,mD⟩:∃ aC,aC=D.aM s {c with waits:=false}:=⟨_,rfl⟩
 rw[<-mD] at aU HS;have hc1:aC.calls.getD s none=some {c with waits:=false}:=by rw[mD,di (bR hc),aW rfl]
 have hkp:kp A aC s=kp A D s:=by unfold kp;rw[bC hc1,bC hc]
 have H5:Hid (∀ n w5,(w.alloc (.cells #[I 0,I 0,I 0,.slice none 0 0,I 0,I 0] 81)).drewN n=w5->zB w5 (A.bc s) 10 c.waits∧w5.frozen? (J (A.bc s) 10)=false∧∀ w6,w5.setCell (J (A.bc s) 10) (.bool false)=w6->zS w6 A.V 2 A.ba 0∧w6.cell? (J (A.bc s) 4)=some (.func (.func fv) fb fc)∧zk 71 #[R A.ba 0] w6 (fun e E=>e=.returned (I (D.count:Int))∧w6=E)∧zk fv (fb++fc) w6 (lF (A.tmp w.heap.size) w6 s (aK,ok))∧Grow A.L w (A.tmp w.heap.size).L w6∧((A.tmp w.heap.size).L w.heap.size=some .tmp∧w6.heap[w.heap.size]? =some (.cells #[I 0,I 0,I 0,.slice none 0 0,I 0,I 0] 81))):=by
  rintro n w5 rfl;have r5:=r0.drewN n;refine⟨r5.call hc 10 rfl,r5.pX hc 10,?_⟩;rintro w6 rfl;obtain⟨r6,g6⟩:=r5.rV hc {c with waits:=false} 10 (.bool false) rfl rfl;have yj:=(Grow.drewN (A.tmp w.heap.size).L (w.alloc (.cells #[I 0,I 0,I 0,.slice none 0 0,I 0,I 0] 81)) n).trans g6;have gg:=g0.trans yj;rw[<-mD] at r6;have h4:_=some (A.bE s):=r6.call hc1 4 rfl;rw[yX] at h4;have h4':(((w.alloc (.cells #[I 0,I 0,I 0,.slice none 0 0,I 0,I 0] 81)).drewN n).setCell (J (A.bc s) 10) (.bool false)).cell? (J (A.bc s) 4)=some (.func (.func fv) fb fc):=h4;have PE:=(hkr.grow gg)
  rw[yX,<-hkp] at PE;have hS:=HS (A.tmp w.heap.size) _ fv fb fc r6 hL.mp (hL.mt s) PE;rw[aU] at hS;have hcn:=jf r6 (by rw[mD];exact Nat.lt_trans aN (by decide));have hcc:aC.count=D.count:=by rw[mD];rfl
  rw[hcc] at hcn;exact⟨r6.bT 2 rfl,h4',hcn,hS,gg,fK ⟨fl,fh⟩ yj⟩
 have tN:=U hL;have HF:=U (zA hc2 (zA hdl (zA hcq (zA hs hlk))));have n1:IntKind.i64.wrap (((D.count+dl:Nat):Int) - (D.count:Int))=(dl:Int):=by rw[je];omega
 have n2:IntKind.i64.wrap ((aK.aA:Int)+(dl:Int))=((aK.aA+dl:Nat):Int):=by rw[je];omega
 have H7 : Hid (∀ A2 w2 v A3, A3 = { A2 with bE := lq A2.bE s v } -> aF A2 aK w2 -> bU (A.tmp w.heap.size) A2 s -> w2.cell? (J (A.bc s) 4) = some (A2.bE s) ∧ w2.frozen? (J (A.bc s) 4) = false ∧ ∀ w3, w2.setCell (J (A.bc s) 4) v = w3 -> zT w3 A.V 23 (aK.aA : Int) ∧ w3.frozen? (J A.V 23) = false ∧ zS w3 A.V 2 A.ba 0 ∧ zk 71 #[R A.ba 0] w3.drew (fun e E => e = .returned (I ((D.count + dl : Nat) : Int)) ∧ E = w3.drew) ∧
     ∀ w4,w3.drew.setCell (J A.V 23) (I ((aK.aA+dl:Nat):Int))=w4->aF A3 ({aK.aM s {c2 with k:=ok} with aA:=aK.aA+dl}) w4∧Grow A2.L w2 A2.L w4∧zB w4 (A.bc s) 10 c2.waits∧zB w4 (A.bc s) 11 c2.over):=by
  intro A2 w2 v A3 hA3 q st;have wE:A2.bc=A.bc:=st.bc;have PG:A2.V=A.V:=st.V;have Sj:A2.ba=A.ba:=st.ba;have x4:=q.call hc2 4 (v:=A2.bE s) rfl;have z4:=q.pX hc2 4;rw[wE] at x4 z4;refine⟨x4,z4,?_⟩;rintro w3 rfl;obtain⟨r3,g3⟩:=q.r9 hc2 v ok;rw[<-hA3,wE] at r3;rw[wE] at g3;have e3:A3.V=A.V:=by rw[hA3];exact PG
  have Sk:A3.ba=A.ba:=by rw[hA3];exact Sj
  have Sl:A3.bc=A.bc:=by rw[hA3];exact wE
  have Sm:A3.L=A2.L:=by rw[hA3]
  have y23:=r3.bT 23 (v:=I (aK.aA:Int)) rfl;have z23:=r3.iE 23;have y2:=r3.bT 2 (v:=R A3.ba 0) rfl;have hcn:=flip (jf r3.drew (by show aK.count<_;omega));rw[e3] at y23 z23 y2;rw[Sk] at hcn y2;rw[show (aK.aM s {c2 with k:=ok}).count=D.count+dl from hdl] at hcn;refine⟨y23,z23,y2,hcn,?_⟩;intro w4 hw4;obtain⟨r4,g4⟩:=r3.drew.rY (aK.aA+dl);rw[e3,hw4] at r4 g4;rw[Sm] at g4;have hc4:({aK.aM s {c2 with k:=ok} with aA:=aK.aA+dl}:St).calls.getD s none=some {c2 with k:=ok}:=by show (aK.aM s {c2 with k:=ok}).calls.getD s none=_;rw[di (bR hc2),aW rfl]
  have EY:=r4.call hc4 10 (v:=.bool c2.waits) rfl;have G6:=r4.call hc4 11 (v:=.bool c2.over) rfl;rw[Sl] at EY G6;exact⟨r4,(g3.trans (Grow.drew _ _)).trans g4,EY,G6⟩
 have hwx:(w.alloc (.cells #[I 0,I 0,I 0,.slice none 0 0,I 0,I 0] 81)).cell? (J (A.bc s) 10)=zb c.waits:=r0.call hc 10 rfl;have UC:=U tL;clear hL ht hc Y aN aU HS hc2 hdl hd1 hlk hcq r0 g0 fl fh tL hk0 hkr yX mD hc1 hkp hs;generalize (D.count:Int)=ca at*;generalize ((D.count+dl:Nat):Int)=cb at*;generalize ((aK.aA+dl:Nat):Int)=lb at*;go_enter Tryz.func34,Tryz.ntmps34;go_wp2_with (go_at_call 40;refine (gG.out _).mono ?_;rintro e E ⟨rfl,rfl⟩);generalize hw0:w.alloc _=w0 at*
 go_quiet (fail)
 generalize jg:w0.drewN _=w5;obtain⟨RL,PH,h6⟩:=H5.out _ w5 jg;obtain⟨y2,y4,hcn,hS,gg,fD⟩:=h6 _ rfl;have HC:=U hcn;have HX:=U (zA hS (zA gg fD));clear hcn hS gg fD h6 jg hw0 H5 v0 v1 hwx;go_wp2_with (go_at_call 71;refine HC.out.mono ?_;rintro e E ⟨rfl,rfl⟩);refine HX.out.1.mono ?_;rintro e w2 ⟨A2,v,rfl,q1,q2,q3,q4⟩;subst hok;obtain⟨f2,u2,u3,rfl,Xa⟩:=nY.enter q4;obtain⟨x4,z4,h3⟩:=H7.out A2 w2 (.func (.func f2) u2 u3) _ rfl q1 q3;obtain⟨y23,z23,y2',hcn,h4⟩:=h3 _ rfl;have Sn:=U hcn;have G7:=U (zA q1 (zA q2 (zA q3 (zA q4 h4))));clear hcn h3 h4 q1 q2 q3 q4 H7 RL PH y2 y4;go_wp2_with fail;generalize hw3:w2.setCell (J (A.bc s) 4) (.func (.func f2) u2 u3)=w3 at*;refine wp_region_still_tail 14 (by kernel_rfl) (by kernel_rfl) ?_;simp only[jZ,j6,kg,kr]
 repeat still_step
 still_call Sn.out
 repeat still_step
 refine wpStill_nil ?_;change wpList _ _ _ _ _ w3.drew;have Sq:w3.drew.cell? (J A.V 23)=zt (aK.aA:Int):=y23;have Sr:w3.drew.frozen? (J A.V 23)=false:=z23;generalize w3.drew=wd at*;obtain⟨r4,g4,EY,G6⟩:=G7.out.2.2.2.2 _ rfl;have fD:=fK (fK HX.out.2.2 G7.out.2.1) g4;have CR:=U (kP fD.2);have HY:=U (zA r4 (zA g4 fD));have ZR:=U hov;rw[hov] at G6;clear r4 g4 fD hov
 cases hwt:c2.waits
 . rw[hwt] at EY
   have U7:=U hwt;clear hwt;go_wp2_with (refine wpList_store_mid rfl 81 (.tmp 4) (.tmp 77) rfl w.heap.size 0 #[I 1,I 0,I 0,.slice none 0 0,I 0,I 0] rfl rfl CR.out (by kernel_rfl) (by simp[Value.oneCell']) ?_;generalize hws:World.setCells _ _ _ _=ws);have dE:=But.setCells w.heap.size [I 1,I 0,I 0,.slice none 0 0,I 0,I 0] 0 (wd.setCell (J A.V 23) (I lb));have hfin:=kN HY.out.2.2.2 (I 1) (I 0) (I 0) (.slice none 0 0) (I 0) (I 0);rw[show (wd.setCell (J A.V 23) (I lb)).setCells w.heap.size 0 [I 1,I 0,I 0,.slice none 0 0,I 0,I 0]=ws from hws] at dE hfin
   (try simp only[Exit.inBlock,Exit.then])
   refine bodyPost_ret (eZ rfl _ _ w.heap.size 81 #[I 1,I 0,I 0,.slice none 0 0,I 0,I 0] _ _ rfl hfin Tryz.underlying81 rfl (by kernel_rfl)) rfl ?_;have hkd:(if c2.waits then (2:Int) else 1)=1:=by rw[U7.out];rfl
   rw[HQ.out,hkd];obtain⟨hc2,hdl,hcq,hs,_⟩:=HF.out;obtain⟨q1,q2,q3,q4,_⟩:=G7.out;obtain⟨r4,g4,fD⟩:=HY.out;have r5:=r4.but fD.1 dE;have gg:=(((HX.out.2.1.trans q2).trans g4).but (zr _) dE)
   have hc':({aK.aM s {c2 with k:=some k'} with aA:=aK.aA+dl}:St).calls.getD s none=some {c2 with k:=some k'}:=by show (aK.aM s {c2 with k:=some k'}).calls.getD s none=_;rw[di (bR hc2),aW rfl]
   refine⟨{A2 with bE:=lq A2.bE s (.func (.func f2) u2 u3)},.slice none 0 0,rfl,iJ.nil _ _ _,Live.of (s:=s) tN.out MO.out r5 gg ⟨q3.bf,q3.mp,q3.mt,fun q _=>by rw[show ({A2 with bE:=_}:az).bt=A.bt from q3.bt],fun q _=>by rw[show ({A2 with bE:=_}:az).bc=A.bc from q3.bc],q3.bx,q3.aX,fun q hq=>(bJ _ _ hq).trans (congrFun q3.bE q),fun q _=>congrFun q3.bH q⟩ (fun q hq=>?_) (fun c' hcc=>?_) (fun hnn=>by have h0:=hc'.symm.trans hnn;cases h0),gg,q3.V⟩
   . show (aK.aM s _).calls.getD q none=_
     rw[di (bR hc2),bu hq];exact hcq q hq
   . obtain rfl:{c2 with k:=some k'}=c':=zj (hc'.symm.trans hcc)
     refine⟨?_,k',rfl,?_⟩
     . show A2.bH s=ptr (A2.bc s)
       rw[q3.bH,q3.bc];exact UC.out
     . have ek:kp {A2 with bE:=lq A2.bE s (.func (.func f2) u2 u3)} ({aK.aM s {c2 with k:=some k'} with aA:=aK.aA+dl}:St) s=kp A2 aK s:=by unfold kp;rw[bC hc',bC hc2]
       rw[ek,show ({A2 with bE:=lq A2.bE s (.func (.func f2) u2 u3)}:az).bE s=.func (.func f2) u2 u3 from lZ _ _ _];exact (q4.grow g4).soft (dE.soft fD.1)
 . rw[hwt] at EY
   have U7:=U hwt;clear hwt;go_wp2_with (refine wpList_store_mid rfl 81 (.tmp 4) (.tmp 70) rfl w.heap.size 0 #[I 2,I 0,I 0,.slice none 0 0,I 0,I 0] rfl rfl CR.out (by kernel_rfl) (by simp[Value.oneCell']) ?_;generalize hws:World.setCells _ _ _ _=ws);have dE:=But.setCells w.heap.size [I 2,I 0,I 0,.slice none 0 0,I 0,I 0] 0 (wd.setCell (J A.V 23) (I lb));have hfin:=kN HY.out.2.2.2 (I 2) (I 0) (I 0) (.slice none 0 0) (I 0) (I 0);rw[show (wd.setCell (J A.V 23) (I lb)).setCells w.heap.size 0 [I 2,I 0,I 0,.slice none 0 0,I 0,I 0]=ws from hws] at dE hfin
   (try simp only[Exit.inBlock,Exit.then])
   refine bodyPost_ret (eZ rfl _ _ w.heap.size 81 #[I 2,I 0,I 0,.slice none 0 0,I 0,I 0] _ _ rfl hfin Tryz.underlying81 rfl (by kernel_rfl)) rfl ?_;have hkd:(if c2.waits then (2:Int) else 1)=2:=by rw[U7.out];rfl
   rw[HQ.out,hkd];obtain⟨hc2,hdl,hcq,hs,_⟩:=HF.out;obtain⟨q1,q2,q3,q4,_⟩:=G7.out;obtain⟨r4,g4,fD⟩:=HY.out;have r5:=r4.but fD.1 dE;have gg:=(((HX.out.2.1.trans q2).trans g4).but (zr _) dE)
   have hc':({aK.aM s {c2 with k:=some k'} with aA:=aK.aA+dl}:St).calls.getD s none=some {c2 with k:=some k'}:=by show (aK.aM s {c2 with k:=some k'}).calls.getD s none=_;rw[di (bR hc2),aW rfl]
   refine⟨{A2 with bE:=lq A2.bE s (.func (.func f2) u2 u3)},.slice none 0 0,rfl,iJ.nil _ _ _,Live.of (s:=s) tN.out MO.out r5 gg ⟨q3.bf,q3.mp,q3.mt,fun q _=>by rw[show ({A2 with bE:=_}:az).bt=A.bt from q3.bt],fun q _=>by rw[show ({A2 with bE:=_}:az).bc=A.bc from q3.bc],q3.bx,q3.aX,fun q hq=>(bJ _ _ hq).trans (congrFun q3.bE q),fun q _=>congrFun q3.bH q⟩ (fun q hq=>?_) (fun c' hcc=>?_) (fun hnn=>by have h0:=hc'.symm.trans hnn;cases h0),gg,q3.V⟩
   . show (aK.aM s _).calls.getD q none=_
     rw[di (bR hc2),bu hq];exact hcq q hq
   . obtain rfl:{c2 with k:=some k'}=c':=zj (hc'.symm.trans hcc)
     refine⟨?_,k',rfl,?_⟩
     . show A2.bH s=ptr (A2.bc s)
       rw[q3.bH,q3.bc];exact UC.out
     . have ek:kp {A2 with bE:=lq A2.bE s (.func (.func f2) u2 u3)} ({aK.aM s {c2 with k:=some k'} with aA:=aK.aA+dl}:St) s=kp A2 aK s:=by unfold kp;rw[bC hc',bC hc2]
       rw[ek,show ({A2 with bE:=lq A2.bE s (.func (.func f2) u2 u3)}:az).bE s=.func (.func f2) u2 u3 from lZ _ _ _];exact (q4.grow g4).soft (dE.soft fD.1)
theorem tV (o:En.Op) (h:nX o=true) (w:World):zk 68 #[.agg #[I o.kind,I o.F,I o.hi,I o.value]] w fun e E=>e=.returned (.bool true)∧Below w.heap.size w E:=by
 have Z:Below w.heap.size w (w.alloc (.cells #[I o.kind,I o.F,I o.hi,I o.value] 27)):=(Below.refl _ _).alloc (zr _) _;have HB:=U Z;clear Z;obtain⟨kind,F,hi,value⟩:=o;unfold nX at h;simp only at h HB ⊢;have Y:kind=1∨kind=2∨kind=3∨kind=4∨kind=5∨kind=6∨kind=7:=by
  by_cases h1:kind=1;exact .inl h1
  by_cases h2:kind=2;exact .inr (.inl h2)
  by_cases h3:kind=3;exact .inr (.inr (.inl h3))
  by_cases h4:kind=4;exact .inr (.inr (.inr (.inl h4)))
  by_cases h5:kind=5;exact .inr (.inr (.inr (.inr (.inl h5))))
  by_cases h6:kind=6;exact .inr (.inr (.inr (.inr (.inr (.inl h6)))))
  by_cases h7:kind=7;exact .inr (.inr (.inr (.inr (.inr (.inr h7)))))
  simp[h1,h2,h3,h4,h5,h6,h7] at h
 rcases Y with rfl|rfl|rfl|rfl|rfl|rfl|rfl
 . simp only[gT,zd,beq_iff_eq] at h
   have hx:=h;have a1:decide ((F:Int)<=(63:Int))=true:=by simp;omega
   have a2:((F:Int)<=(63:Int))=True:=by simp;omega
   have b1:((hi:Int)==0)=true:=by simp;omega
   have b2:((hi:Int)=0)=True:=by simp;omega
   have c1:((value:Int)==0)=true:=by simp;omega
   have c2:((value:Int)=0)=True:=by simp;omega
   clear h hx;go_enter Tryz.func68,Tryz.ntmps68;go_wp2;go_ret;exact⟨rfl,HB.out⟩
 . simp only[gT,zd,beq_iff_eq] at h
   have hx:=h;have a1:decide ((F:Int)<=(63:Int))=true:=by simp;omega
   have a2:((F:Int)<=(63:Int))=True:=by simp;omega
   have b1:((hi:Int)==0)=true:=by simp;omega
   have b2:((hi:Int)=0)=True:=by simp;omega
   have c1:decide ((value:Int)<=(65535:Int))=true:=by simp;omega
   have c2:((value:Int)<=(65535:Int))=True:=by simp;omega
   clear h hx;go_enter Tryz.func68,Tryz.ntmps68;go_wp2;go_ret;exact⟨rfl,HB.out⟩
 . simp only[gT,zd,beq_iff_eq] at h
   have hx:=h;have a1:decide ((F:Int)<=(63:Int))=true:=by simp;omega
   have a2:((F:Int)<=(63:Int))=True:=by simp;omega
   have b1:((hi:Int)==0)=true:=by simp;omega
   have b2:((hi:Int)=0)=True:=by simp;omega
   have c1:decide ((value:Int)<=(65535:Int))=true:=by simp;omega
   have c2:((value:Int)<=(65535:Int))=True:=by simp;omega
   clear h hx;go_enter Tryz.func68,Tryz.ntmps68;go_wp2;go_ret;exact⟨rfl,HB.out⟩
 . simp only[gT,zd,beq_iff_eq] at h
   have hx:=h;have a1:decide ((F:Int)<=(63:Int))=true:=by simp;omega
   have a2:((F:Int)<=(63:Int))=True:=by simp;omega
   have b1:((hi:Int)==0)=true:=by simp;omega
   have b2:((hi:Int)=0)=True:=by simp;omega
   have c1:((value:Int)==0)=true:=by simp;omega
   have c2:((value:Int)=0)=True:=by simp;omega
   clear h hx;go_enter Tryz.func68,Tryz.ntmps68;go_wp2;go_ret;exact⟨rfl,HB.out⟩
 . simp only[gT,zd,beq_iff_eq] at h
   have hx:=h;have a1:decide ((F:Int)<=(63:Int))=true:=by simp;omega
   have a2:((F:Int)<=(63:Int))=True:=by simp;omega
   have b1:decide ((F:Int)<=(hi:Int))=true:=by simp;omega
   have b2:((F:Int)<=(hi:Int))=True:=by simp;omega
   have e1:decide ((hi:Int)<=(63:Int))=true:=by simp;omega
   have e2:((hi:Int)<=(63:Int))=True:=by simp;omega
   have c1:((value:Int)==0)=true:=by simp;omega
   have c2:((value:Int)=0)=True:=by simp;omega
   clear h hx;go_enter Tryz.func68,Tryz.ntmps68;go_wp2;go_ret;exact⟨rfl,HB.out⟩
 . simp only[gT,zd,beq_iff_eq] at h
   have hx:=h;have a1:((F:Int)==0)=true:=by simp;omega
   have a2:((F:Int)=0)=True:=by simp;omega
   have b1:((hi:Int)==0)=true:=by simp;omega
   have b2:((hi:Int)=0)=True:=by simp;omega
   have c1:((value:Int)==0)=true:=by simp;omega
   have c2:((value:Int)=0)=True:=by simp;omega
   clear h hx;go_enter Tryz.func68,Tryz.ntmps68;go_wp2;go_ret;exact⟨rfl,HB.out⟩
 . simp only[gT,zd,beq_iff_eq] at h
   have hx:=h;have a1:((F:Int)==0)=true:=by simp;omega
   have a2:((F:Int)=0)=True:=by simp;omega
   have b1:((hi:Int)==0)=true:=by simp;omega
   have b2:((hi:Int)=0)=True:=by simp;omega
   have c1:((value:Int)==0)=true:=by simp;omega
   have c2:((value:Int)=0)=True:=by simp;omega
   clear h hx;go_enter Tryz.func68,Tryz.ntmps68;go_wp2;go_ret;exact⟨rfl,HB.out⟩
theorem AL (o:En.Op) (w:World):zk 69 #[.agg #[I o.kind,I o.F,I o.hi,I o.value]] w fun e E=>e=.returned (.bool (gU o))∧Below w.heap.size w E:=by
 have Z:Below w.heap.size w (w.alloc (.cells #[I o.kind,I o.F,I o.hi,I o.value] 27)):=(Below.refl _ _).alloc (zr _) _;have HB:=U Z;clear Z;have he:gU o=(decide (o.kind=6)||decide (o.kind=7)):=by unfold gU;by_cases h1:o.kind=6<;>by_cases h2:o.kind=7<;>simp[h1,h2]
 rw[he];clear he;generalize o.kind=kd at*
 by_cases h6:kd=6
 . subst h6
   go_enter Tryz.func69,Tryz.ntmps69;go_wp2;go_ret;exact⟨rfl,HB.out⟩
 . have a1:((kd:Int)==6)=false:=by simp;omega
   have a2:((kd:Int)=6)=False:=by simp;omega
   by_cases h7:kd=7
   . have b1:((kd:Int)==7)=true:=by simp;omega
     have b2:((kd:Int)=7)=True:=by simp;omega
     have HX:=U (zA h6 h7);clear h6 h7;go_enter Tryz.func69,Tryz.ntmps69;go_wp2;go_ret;exact⟨by simp[HX.out.1,HX.out.2],HB.out⟩
   . have b1:((kd:Int)==7)=false:=by simp;omega
     have b2:((kd:Int)=7)=False:=by simp;omega
     have HX:=U (zA h6 h7);clear h6 h7;go_enter Tryz.func69,Tryz.ntmps69;go_wp2;go_ret;exact⟨by simp[HX.out.1,HX.out.2],HB.out⟩
theorem vK (l:Nat) (h1:1<=l) (h2:l<=3) (w:World):zk 41 #[I l] w fun e E=>e=.returned (.bool true)∧w=E:=by
 have d1:decide ((1:Int)<=(l:Int))=true:=by simp;omega
 have d2:decide ((l:Int)<=3)=true:=by simp;omega
 have e1:((1:Int)<=(l:Int))=True:=by simp;omega
 have e2:((l:Int)<=3)=True:=by simp;omega
 have g1:(1<=l)=True:=by simp;omega
 have g2:(l<=3)=True:=by simp;omega
 have g3:(0<l)=True:=by simp;omega
 clear h1 h2;go_enter Tryz.func41,Tryz.ntmps41;go_wp2;go_ret;exact⟨rfl,rfl⟩
theorem qG {A:az} {D:St} {w:World} (hL:Live A D w) (s:Nat) (hs:s<8) (t:bL) (ht:D.ai.getD s none=some t) (c:dY) (hc:D.calls.getD s none=some c) (k:K) (Y:c.k=some k) (aN:D.count<3000000000000000000) (aK:St) (ok:Option K) (aU:(D.aM s {c with waits:=false}).run s k=(aK,ok)) (HS:AJ (D.aM s {c with waits:=false}) s k) (c2:dY) (hc2:aK.calls.getD s none=some c2) (dl:Nat) (hdl:aK.count=D.count+dl) (hd1:dl<1000000) (hlk:aK.aA<1000000000000000000) (hcq:∀ q,q≠s->aK.calls.getD q none=D.calls.getD q none) (hok:ok=none) (hw:c2.waits=false) (hov:c2.over=true) (hpr:c2.r.aL=[]) (hro:c2.r.over≠0):
 zk 34 #[R A.V 0,I s] w (Stepped A w ({aK.aM s {c2 with k:=ok} with aA:=aK.aA+dl,calls:=(aK.aM s {c2 with k:=ok}).calls.set s none,ai:=aK.ai.set s none}) 3 c2.r):=by
 have MO:Hid (aK.sw=D.sw∧aK.cut=D.cut):=U (by have h:=EX (D.aM s {c with waits:=false}) s k;rw[aU] at h;exact h);obtain⟨Q,hQ⟩:∃ Q,Q=Stepped A w ({aK.aM s {c2 with k:=ok} with aA:=aK.aA+dl,calls:=(aK.aM s {c2 with k:=ok}).calls.set s none,ai:=aK.ai.set s none}) 3 c2.r:=⟨_,rfl⟩
 rw[<-hQ];have HQ:=U hQ;clear hQ;obtain⟨r0,g0,fl,fh⟩:=hL.rep.o5 (.cells #[I 0,I 0,I 0,.slice none 0 0,I 0,I 0] 81);obtain⟨tL,k0,hk0,hkr⟩:=hL.call s hs c hc;obtain rfl:k=k0:=by rw[Y] at hk0;exact zj hk0
 obtain⟨fv,fb,fc,yX,hent⟩:=hkr.enter;have gG:=U (fQ s hs);have b1:(s:Int)<8:=by omega
 have b0:(0:Int)<=(s:Int):=by omega
 have v0:(w.alloc (.cells #[I 0,I 0,I 0,.slice none 0 0,I 0,I 0] 81)).cell? (J A.V (13+s))=zs (A.bc s) 0:=by rw[<-show A.bH s=R (A.bc s) 0 from tL];exact r0.bT (13+s) (ed (A.tmp w.heap.size) D hs)
 have v1:(w.alloc (.cells #[I 0,I 0,I 0,.slice none 0 0,I 0,I 0] 81)).cell? (J A.V (5+s))=zs (A.bt s) 0:=by
  have h:=r0.bT (5+s) (dQ (A.tmp w.heap.size) D hs);have e:(A.tmp w.heap.size).tp D s=R (A.bt s) 0:=by unfold az.tp;rw[ht];rfl
  rw[e] at h;exact h
 obtain⟨aC,mD⟩:∃ aC,aC=D.aM s {c with waits:=false}:=⟨_,rfl⟩
 rw[<-mD] at aU HS;have hc1:aC.calls.getD s none=some {c with waits:=false}:=by rw[mD,di (bR hc),aW rfl]
 have hkp:kp A aC s=kp A D s:=by unfold kp;rw[bC hc1,bC hc]
 have H5:Hid (∀ n w5,(w.alloc (.cells #[I 0,I 0,I 0,.slice none 0 0,I 0,I 0] 81)).drewN n=w5->zB w5 (A.bc s) 10 c.waits∧w5.frozen? (J (A.bc s) 10)=false∧∀ w6,w5.setCell (J (A.bc s) 10) (.bool false)=w6->zS w6 A.V 2 A.ba 0∧w6.cell? (J (A.bc s) 4)=some (.func (.func fv) fb fc)∧zk 71 #[R A.ba 0] w6 (fun e E=>e=.returned (I (D.count:Int))∧w6=E)∧zk fv (fb++fc) w6 (lF (A.tmp w.heap.size) w6 s (aK,ok))∧Grow A.L w (A.tmp w.heap.size).L w6∧((A.tmp w.heap.size).L w.heap.size=some .tmp∧w6.heap[w.heap.size]? =some (.cells #[I 0,I 0,I 0,.slice none 0 0,I 0,I 0] 81))):=by
  rintro n w5 rfl;have r5:=r0.drewN n;refine⟨r5.call hc 10 rfl,r5.pX hc 10,?_⟩;rintro w6 rfl;obtain⟨r6,g6⟩:=r5.rV hc {c with waits:=false} 10 (.bool false) rfl rfl;have yj:=(Grow.drewN (A.tmp w.heap.size).L (w.alloc (.cells #[I 0,I 0,I 0,.slice none 0 0,I 0,I 0] 81)) n).trans g6;have gg:=g0.trans yj;rw[<-mD] at r6;have h4:_=some (A.bE s):=r6.call hc1 4 rfl;rw[yX] at h4;have h4':(((w.alloc (.cells #[I 0,I 0,I 0,.slice none 0 0,I 0,I 0] 81)).drewN n).setCell (J (A.bc s) 10) (.bool false)).cell? (J (A.bc s) 4)=some (.func (.func fv) fb fc):=h4;have PE:=(hkr.grow gg)
  rw[yX,<-hkp] at PE;have hS:=HS (A.tmp w.heap.size) _ fv fb fc r6 hL.mp (hL.mt s) PE;rw[aU] at hS;have hcn:=jf r6 (by rw[mD];exact Nat.lt_trans aN (by decide));have hcc:aC.count=D.count:=by rw[mD];rfl
  rw[hcc] at hcn;exact⟨r6.bT 2 rfl,h4',hcn,hS,gg,fK ⟨fl,fh⟩ yj⟩
 have tN:=U hL;have HF:=U (zA hc2 (zA hdl (zA hcq (zA hs hlk))));have n1:IntKind.i64.wrap (((D.count+dl:Nat):Int) - (D.count:Int))=(dl:Int):=by rw[je];omega
 have n2:IntKind.i64.wrap ((aK.aA:Int)+(dl:Int))=((aK.aA+dl:Nat):Int):=by rw[je];omega
 have H7 : Hid (∀ A2 w2 v A3, A3 = { A2 with bE := lq A2.bE s v } -> aF A2 aK w2 -> bU (A.tmp w.heap.size) A2 s -> w2.cell? (J (A.bc s) 4) = some (A2.bE s) ∧ w2.frozen? (J (A.bc s) 4) = false ∧ ∀ w3, w2.setCell (J (A.bc s) 4) v = w3 -> zT w3 A.V 23 (aK.aA : Int) ∧ w3.frozen? (J A.V 23) = false ∧ zS w3 A.V 2 A.ba 0 ∧ zk 71 #[R A.ba 0] w3.drew (fun e E => e = .returned (I ((D.count + dl : Nat) : Int)) ∧ E = w3.drew) ∧
     ∀ w4,w3.drew.setCell (J A.V 23) (I ((aK.aA+dl:Nat):Int))=w4->aF A3 ({aK.aM s {c2 with k:=ok} with aA:=aK.aA+dl}) w4∧Grow A2.L w2 A2.L w4∧zB w4 (A.bc s) 10 c2.waits∧zB w4 (A.bc s) 11 c2.over):=by
  intro A2 w2 v A3 hA3 q st;have wE:A2.bc=A.bc:=st.bc;have PG:A2.V=A.V:=st.V;have Sj:A2.ba=A.ba:=st.ba;have x4:=q.call hc2 4 (v:=A2.bE s) rfl;have z4:=q.pX hc2 4;rw[wE] at x4 z4;refine⟨x4,z4,?_⟩;rintro w3 rfl;obtain⟨r3,g3⟩:=q.r9 hc2 v ok;rw[<-hA3,wE] at r3;rw[wE] at g3;have e3:A3.V=A.V:=by rw[hA3];exact PG
  have Sk:A3.ba=A.ba:=by rw[hA3];exact Sj
  have Sl:A3.bc=A.bc:=by rw[hA3];exact wE
  have Sm:A3.L=A2.L:=by rw[hA3]
  have y23:=r3.bT 23 (v:=I (aK.aA:Int)) rfl;have z23:=r3.iE 23;have y2:=r3.bT 2 (v:=R A3.ba 0) rfl;have hcn:=flip (jf r3.drew (by show aK.count<_;omega));rw[e3] at y23 z23 y2;rw[Sk] at hcn y2;rw[show (aK.aM s {c2 with k:=ok}).count=D.count+dl from hdl] at hcn;refine⟨y23,z23,y2,hcn,?_⟩;intro w4 hw4;obtain⟨r4,g4⟩:=r3.drew.rY (aK.aA+dl);rw[e3,hw4] at r4 g4;rw[Sm] at g4;have hc4:({aK.aM s {c2 with k:=ok} with aA:=aK.aA+dl}:St).calls.getD s none=some {c2 with k:=ok}:=by show (aK.aM s {c2 with k:=ok}).calls.getD s none=_;rw[di (bR hc2),aW rfl]
  have EY:=r4.call hc4 10 (v:=.bool c2.waits) rfl;have G6:=r4.call hc4 11 (v:=.bool c2.over) rfl;rw[Sl] at EY G6;exact⟨r4,(g3.trans (Grow.drew _ _)).trans g4,EY,G6⟩
 have hwx:(w.alloc (.cells #[I 0,I 0,I 0,.slice none 0 0,I 0,I 0] 81)).cell? (J (A.bc s) 10)=zb c.waits:=r0.call hc 10 rfl;have UC:=U tL;clear hL ht hc Y aN aU HS hc2 hdl hd1 hlk hcq r0 g0 fl fh tL hk0 hkr yX mD hc1 hkp hs;generalize (D.count:Int)=ca at*;generalize ((D.count+dl:Nat):Int)=cb at*;generalize ((aK.aA+dl:Nat):Int)=lb at*;go_enter Tryz.func34,Tryz.ntmps34;go_wp2_with (go_at_call 40;refine (gG.out _).mono ?_;rintro e E ⟨rfl,rfl⟩);generalize hw0:w.alloc _=w0 at*
 go_quiet (fail)
 generalize jg:w0.drewN _=w5;obtain⟨RL,PH,h6⟩:=H5.out _ w5 jg;obtain⟨y2,y4,hcn,hS,gg,fD⟩:=h6 _ rfl;have HC:=U hcn;have HX:=U (zA hS (zA gg fD));clear hcn hS gg fD h6 jg hw0 H5 v0 v1 hwx;go_wp2_with (go_at_call 71;refine HC.out.mono ?_;rintro e E ⟨rfl,rfl⟩);refine HX.out.1.mono ?_;rintro e w2 ⟨A2,v,rfl,q1,q2,q3,q4⟩;subst hok;have hv:v=.nilFunc:=q4;clear q4;subst hv;obtain⟨x4,z4,h3⟩:=H7.out A2 w2 .nilFunc _ rfl q1 q3;obtain⟨y23,z23,y2',hcn,h4⟩:=h3 _ rfl;have Sn:=U hcn;have G7:=U (zA q1 (zA q2 (zA q3 h4)));clear hcn h3 h4 q1 q2 q3 H7 RL PH y2 y4;go_wp2_with fail;generalize hw3:w2.setCell (J (A.bc s) 4) .nilFunc=w3 at*;refine wp_region_still_tail 14 (by kernel_rfl) (by kernel_rfl) ?_;simp only[jZ,j6,kg,kr]
 repeat still_step
 still_call Sn.out
 repeat still_step
 refine wpStill_nil ?_;change wpList _ _ _ _ _ w3.drew;have Sq:w3.drew.cell? (J A.V 23)=zt (aK.aA:Int):=y23;have Sr:w3.drew.frozen? (J A.V 23)=false:=z23;generalize w3.drew=wd at*;obtain⟨r4,g4,EY,G6⟩:=G7.out.2.2.2 _ rfl;rw[hw] at EY;rw[hov] at G6;obtain⟨hc2,hdl,hcq,hs,_⟩:=HF.out;have q3:=G7.out.2.2.1;have PG:A2.V=A.V:=q3.V;have wE:A2.bc=A.bc:=q3.bc;have hc4:({aK.aM s {c2 with k:=none} with aA:=aK.aA+dl}:St).calls.getD s none=some {c2 with k:=none}:=by show (aK.aM s {c2 with k:=none}).calls.getD s none=_;rw[di (bR hc2),aW rfl]
 have m13:=r4.bT (13+s) (ed {A2 with bE:=lq A2.bE s .nilFunc} _ hs);have JH:=r4.iE (13+s);obtain⟨r5,g5⟩:=r4.rZ hs (.pointer none);have m8:=r5.call hc4 8 (v:=I c2.r.over) rfl;have m5:=r5.bT (5+s) (dQ {A2 with bE:=lq A2.bE s .nilFunc,bH:=lq A2.bH s (.pointer none)} _ hs);have z5:=r5.iE (5+s);obtain⟨r6,g6⟩:=r5.M9 hs;have aY:=r6.mem.all (.aL s);rw[iM (A:={A2 with bE:=lq A2.bE s .nilFunc,bH:=lq A2.bH s (.pointer none)}) (D:={({aK.aM s {c2 with k:=none} with aA:=aK.aA+dl}:St) with ai:=({aK.aM s {c2 with k:=none} with aA:=aK.aA+dl}:St).ai.set s none}) hc4] at aY;obtain⟨pa,yw,hpv,_⟩:=Ow.bO aY.1;rw[show ({c2 with k:=none}:dY).r.aL.length=0 by rw[show ({c2 with k:=none}:dY).r.aL=[] from hpr];rfl] at hpv;have p0:=r6.call hc4 5 (v:=I c2.r.e) rfl;have p1:=r6.call hc4 6 (v:=I c2.r.value) rfl;have p2:=r6.call hc4 7 (v:=A2.aX s) rfl;have p3:=r6.call hc4 8 (v:=I c2.r.over) rfl;have p4:=r6.call hc4 9 (v:=I c2.r.aI) rfl;rw[show A2.aX s=.slice pa 0 yw from hpv] at p2;simp only[PG,wE] at m13 JH r5 g5 m8 m5 z5 r6 g6 p0 p1 p2 p3 p4;have d1:((c2.r.over:Int)==0)=false:=by simp;omega
 have d2:((c2.r.over:Int) !=0)=true:=by simp;omega
 have d3:((c2.r.over:Int)=0)=False:=by simp;omega
 have fD:=fK (fK (fK (fK HX.out.2.2 G7.out.2.1) g4) g5) g6;have HY:=U (zA r6 (zA (((g4.trans g5).trans g6)) (zA fD (zA hpr hro))));have XY:=U (ES (((wd.setCell (J A.V 23) (I lb)).setCell (J A.V (13+s)) (.pointer none)).setCell (J A.V (5+s)) (.pointer none)) c2.r.e c2.r.value c2.r.over c2.r.aI pa yw);clear r4 g4 r5 g5 r6 g6 fD aY hpv q3 PG wE hc4 hc2 hdl hcq hw hov hpr hro;go_wp2_with (first|(go_at_call 53;refine XY.out.mono ?_;rintro e w7 ⟨rfl,Z⟩;have U8:=U Z;have CR:=U (kP (fK HY.out.2.2.1 (Grow.below (L:=A2.L) Z)).2);clear Z)|(refine wpList_store_mid rfl 81 (.tmp 4) (.tmp 115) rfl w.heap.size 0 #[I 3,I c2.r.e,I c2.r.value,.slice none 0 0,I c2.r.over,I c2.r.aI] rfl rfl CR.out (by kernel_rfl) (by simp[Value.oneCell']) ?_;generalize hws:World.setCells _ _ _ _=ws));have dE:=But.setCells w.heap.size [I 3,I c2.r.e,I c2.r.value,.slice none 0 0,I c2.r.over,I c2.r.aI] 0 w7;have fD:=fK HY.out.2.2.1 (Grow.below (L:=A2.L) U8.out);have hfin:=kN fD.2 (I 3) (I c2.r.e) (I c2.r.value) (.slice none 0 0) (I c2.r.over) (I c2.r.aI);rw[show w7.setCells w.heap.size 0 [I 3,I c2.r.e,I c2.r.value,.slice none 0 0,I c2.r.over,I c2.r.aI]=ws from hws] at dE hfin
 (try simp only[Exit.inBlock,Exit.then])
 refine bodyPost_ret (eZ rfl _ _ w.heap.size 81 #[I 3,I c2.r.e,I c2.r.value,.slice none 0 0,I c2.r.over,I c2.r.aI] _ _ rfl hfin Tryz.underlying81 rfl (by kernel_rfl)) rfl ?_;rw[HQ.out];obtain⟨hc2,hdl,hcq,hs,_⟩:=HF.out;obtain⟨q1,q2,q3,_⟩:=G7.out;obtain⟨r6,g6,_,hpr,hro⟩:=HY.out;have r7:=((r6.below U8.out).Cf s).but fD.1 dE;have gg:=((((HX.out.2.1.trans q2).trans g6).trans (Grow.below (L:=A2.L) U8.out)).but (zr _) dE)
 have hlen:s<(aK.aM s {c2 with k:=none}).calls.length:=by have:=bR hc2;simpa [St.aM] using this
 have hns:((aK.aM s {c2 with k:=none}).calls.set s none).getD s none=none:=by rw[kL _ _ _ _ _ hlen,aW rfl]
 refine⟨{A2 with V:=A.V,bc:=A.bc,bE:=lq A2.bE s .nilFunc,bH:=lq A2.bH s (.pointer none)},.slice none 0 0,rfl,by rw[hpr];exact iJ.nil _ _ _,Live.of (s:=s) tN.out MO.out r7 gg ⟨(by show (A.V,A2.Ux)=_;rw[show A2.Ux=A.Ux from congrArg (·.2) q3.bf];rfl),q3.mp,q3.mt,fun q _=>congrFun q3.bt q,fun q _=>rfl,q3.bx,q3.aX,fun q hq=>(bJ _ _ hq).trans (congrFun q3.bE q),fun q hq=>(bJ _ _ hq).trans (congrFun q3.bH q)⟩ (fun q hq=>?_) (fun c' hcc=>?_) (fun hnn=>lZ _ _ _),gg,rfl⟩
 . show ((aK.aM s {c2 with k:=none}).calls.set s none).getD q none=_
   rw[kL _ _ _ _ _ hlen,bu hq,di (bR hc2),bu hq];exact hcq q hq
 . have h0:=hns.symm.trans hcc
   cases h0
variable {A:az} {D:St} {w:World}
def AO (MP:St) (s:Nat):Prop:=∀ A w,aF A MP w->A.mp=0->zk 70 #[R A.V 0,R (A.bt s) 0,R (A.bc s) 0] w (bG A w s (MP.first s))
def EZ (A:az) (w:World) (bF:St) (err:Int):Ending->World->Prop:=fun e E=>∃ A',e=.returned (I err)∧Live A' bF E∧Grow A.L w A'.L E∧A'.V=A.V
def gW (o:En.Op) (q:Nat):dY:={op:=o,k:=none,r:={},waits:=false,over:=false,seq:=q}
theorem yY {D:St} {s q:Nat} (c:dY) (h:q≠s):(D.aM s c).calls.getD q none=D.calls.getD q none:=by
 unfold St.aM;simp only[mM,List.getElem?_set];rw[bu (Ne.symm h)]
theorem E5 (hL:Live A D w) (s:Nat) (hs:s<8) (t:bL) (ht:D.ai.getD s none=some t) (o:En.Op) (ho:nX o=true) (he:gU o=true) (hn:D.calls.getD s none=none) (hop:t.ops<1000000) (BV:D.seq<4000000000000000000)
 (HF:AO (({D with seq:=D.seq+1}:St).aM s (gW o (D.seq+1))) s) (eF:St) (k:K) (hf:(({D with seq:=D.seq+1}:St).aM s (gW o (D.seq+1))).first s=(eF,k)) (c4:dY) (hc4:eF.calls.getD s none=some c4) (hcq:∀ q,q≠s->eF.calls.getD q none=D.calls.getD q none):
 zk 33 #[R A.V 0,I s,.agg #[I o.kind,I o.F,I o.hi,I o.value]] w (EZ A w (eF.aM s {c4 with k:=some k}) 0):=by
 have MO:Hid (eF.sw=D.sw∧eF.cut=D.cut):=U (by have h:=CQ (({D with seq:=D.seq+1}:St).aM s (gW o (D.seq+1))) s;rw[hf] at h;exact h);obtain⟨r0,g0,f0⟩:=dz hL.rep #[I o.kind,I o.F,I o.hi,I o.value] 27;have gG:=U (fQ s hs);have hok:=U (tV o ho);have hen:=U (AL o);rw[he] at hen;have b1:(s:Int)<8:=by omega
 have b0:(0:Int)<=(s:Int):=by omega
 have hV:∀ (A':az) (bF:St) E,aF A' bF E->A'.V=A.V->A'.bt=A.bt->A'.bH=A.bH->(∃ t',bF.ai.getD s none=some t')->zS E A.V (5+s) (A.bt s) 0∧E.cell? (J A.V (13+s))=some (.pointer none):=by
  rintro A' bF E r e1 e2 e3 ⟨t',ht'⟩;have h:=r.bT (5+s) (dQ A' bF hs);have h2:=r.bT (13+s) (ed A' bF hs);have e:A'.tp bF s=R (A.bt s) 0:=by unfold az.tp;rw[ht',e2]
  rw[e,e1] at h;rw[e1,e3,hL.idle s hs hn] at h2;exact⟨h,h2⟩
 have HW:Hid (∀ E,Below (w.alloc (.cells #[I o.kind,I o.F,I o.hi,I o.value] 27)).heap.size (w.alloc (.cells #[I o.kind,I o.F,I o.hi,I o.value] 27)) E->aF A D E∧Grow A.L w A.L E∧Fix A.L E w.heap.size (.cells #[I o.kind,I o.F,I o.hi,I o.value] 27)∧zS E A.V (5+s) (A.bt s) 0∧E.cell? (J A.V (13+s))=some (.pointer none)∧zT E (A.bt s) 5 t.ops∧E.frozen? (J (A.bt s) 5)=false∧zT E A.V 22 (D.seq:Int)∧E.frozen? (J A.V 22)=false):=by
  intro E Z;have r:=r0.below Z;have gb:=Grow.below (L:=A.L) Z;obtain⟨v1,v2⟩:=hV A D E r rfl rfl rfl ⟨t,ht⟩;exact⟨r,g0.trans gb,f0.grow gb,v1,v2,r.fI ht 5 rfl,r.vP ht 5,r.bT 22 rfl,r.iE 22⟩
 obtain⟨_,_,_,v1,v2,v3,v4,v5,v6⟩:=HW.out _ (Below.refl _ _);have tN:=U (zA hL (zA ht (zA hn (zA hs (zA hc4 hcq)))));have Su:=U (zA HF hf);have hd:(decide ((12:Int)<=(t.ops:Int))=false∧((12:Int)<=(t.ops:Int))=False∧(12<=t.ops)=False)∨(decide ((12:Int)<=(t.ops:Int))=true∧((12:Int)<=(t.ops:Int))=True∧(12<=t.ops)=True∧Hid (0=0)):=by
  rcases Nat.lt_or_ge t.ops 12 with h|h
  . exact .inl ⟨by simp;omega,by simp;omega,by simp;omega⟩
  . exact .inr ⟨by simp;omega,by simp;omega,by simp;omega,U rfl⟩
 have n1:IntKind.i64.wrap ((t.ops:Int)+1)=(t.ops:Int)+1:=by rw[je];omega
 have n2:IntKind.i64.wrap ((D.seq:Int)+1)=(D.seq:Int)+1:=by rw[je];omega
 clear hL r0 g0 f0 hs ho he hn hop BV HF hf hc4 hcq hV ht
 rcases hd with ⟨d1,d2,d3⟩|⟨d1,d2,d3,TA⟩
 all_goals (
  go_enter Tryz.func33,Tryz.ntmps33
  go_wp2_with (first|(go_at_call 40;refine (gG.out _).mono ?_;rintro e E ⟨rfl,rfl⟩)|(go_at_call 68;refine (hok.out _).mono ?_;rintro e H ⟨rfl,Z⟩;obtain⟨r1,g1,f1,x1,x2,x3,x4,x5,x6⟩:=HW.out H Z;have y0:=f1.cell 0 (v:=I o.kind) rfl;have y1:=f1.cell 1 (v:=I o.F) rfl;have y2:=f1.cell 2 (v:=I o.hi) rfl;have y3:=f1.cell 3 (v:=I o.value) rfl;have H1:=U Z;clear r1 g1 f1 Z)|(go_at_call 69;refine (hen.out _).mono ?_;rintro e H ⟨rfl,hb2⟩;clear TA;obtain⟨r1,g1,f1,x1,x2,x3,x4,x5,x6⟩:=HW.out H (H1.out.trans (hb2.mono H1.out.size));have y0:=f1.cell 0 (v:=I o.kind) rfl;have y1:=f1.cell 1 (v:=I o.F) rfl;have y2:=f1.cell 2 (v:=I o.hi) rfl;have y3:=f1.cell 3 (v:=I o.value) rfl;have Xb:=U (H1.out.trans (hb2.mono H1.out.size));clear r1 g1 f1 hb2 H1;have H1:=Xb;clear Xb)|(go_at_call 69;refine (hen.out _).mono ?_;rintro e w2 ⟨rfl,hb2⟩;obtain⟨r1,g1,f1,x1,x2,x3,x4,x5,x6⟩:=HW.out w2 (H1.out.trans (hb2.mono H1.out.size));have y0:=f1.cell 0 (v:=I o.kind) rfl;have y1:=f1.cell 1 (v:=I o.F) rfl;have y2:=f1.cell 2 (v:=I o.hi) rfl;have y3:=f1.cell 3 (v:=I o.value) rfl;have H2:=U (zA r1 (zA g1 f1));clear r1 g1 f1 hb2))
  obtain⟨r1,g1,f1⟩:=H2.out
  obtain⟨hL,ht,hn,hs,hc4,hcq⟩:=tN.out
  obtain⟨ra,NM⟩:=r1.JO (D.seq+1)
  rw[show ((D.seq+1:Nat):Int)=(D.seq:Int)+1 from rfl] at ra NM
  have ga:=g1.trans NM
  have fa:=f1.grow NM
  clear NM
  generalize w2.setCell (J A.V 22) (I ((D.seq:Int)+1))=w3 at*
  have hseq:=ra.bT 22 (v:=I ((D.seq:Int)+1)) rfl
  have o0:=fa.cell 0 (v:=I o.kind) rfl
  have o1:=fa.cell 1 (v:=I o.F) rfl
  have o2:=fa.cell 2 (v:=I o.hi) rfl
  have o3:=fa.cell 3 (v:=I o.value) rfl
  have hB:Below w3.heap.size w3 (w3.alloc (.cells #[I o.kind,I o.F,I o.hi,I o.value,.nilFunc,I 0,I 0,.slice none 0 0,I 0,I 0,.bool false,.bool false,I ((D.seq:Int)+1)] 141)).drew:=((Below.refl _ _).alloc (zr _) _).drew
  have hblk:(w3.alloc (.cells #[I o.kind,I o.F,I o.hi,I o.value,.nilFunc,I 0,I 0,.slice none 0 0,I 0,I 0,.bool false,.bool false,I ((D.seq:Int)+1)] 141)).drew.heap[w3.heap.size]? =some (.cells (fP (A.ib s w3.heap.size .nilFunc) s (gW o (D.seq+1))).toArray 141):=by
   rw[show (fP (A.ib s w3.heap.size .nilFunc) s (gW o (D.seq+1))).toArray=#[I o.kind,I o.F,I o.hi,I o.value,.nilFunc,I 0,I 0,.slice none 0 0,I 0,I 0,.bool false,.bool false,I ((D.seq:Int)+1)] by simp[fP,az.ib,lq,gW]]
   exact heap_alloc_new w3 _
  have hn1:({D with seq:=D.seq+1}:St).calls.getD s none=none:=hn
  obtain⟨rb,gb⟩:=ra.ib hB hs (zr _) .nilFunc (gW o (D.seq+1)) rfl hblk hn1
  obtain⟨A1,hA1⟩:∃ A1:az,A1=A.ib s w3.heap.size .nilFunc:=⟨_,rfl⟩
  rw[<-hA1] at rb gb
  have e1:A1.V=A.V:=by rw[hA1];rfl
  have e2:A1.bt=A.bt:=by rw[hA1];rfl
  have e3:A1.bc s=w3.heap.size:=by rw[hA1];exact aW rfl
  have e4:A1.mp=A.mp:=by rw[hA1];rfl
  have Qv:=Su.out.1 A1 _ rb (e4.trans hL.mp)
  rw[Su.out.2,e1,e2,e3] at Qv
  have hst:∀ A5:az,bU A1 A5 s->yV A A5 s:=fun A5 st=>by
   refine⟨st.bf.trans (by rw[hA1];rfl),st.mp.trans e4,st.mt.trans (by rw[hA1];rfl),fun q _=>by rw[st.bt,e2],fun q hq=>by rw[st.bc,hA1];exact bu hq,fun q hq=>(st.bx q hq).trans (by rw[hA1];rfl),fun q hq=>(st.aX q hq).trans (by rw[hA1];exact bJ _ _ hq),fun q hq=>by rw[st.bE,hA1];exact bJ _ _ hq,fun q hq=>by rw[st.bH,hA1];rfl⟩
  have HN:Hid (∀ A5 w5 v A6,A6={A5 with bE:=lq A5.bE s v}->aF A5 eF w5->bU A1 A5 s->w5.cell? (J w3.heap.size 4)=some (A5.bE s)∧w5.frozen? (J w3.heap.size 4)=false∧aF A6 (eF.aM s {c4 with k:=some k}) (w5.setCell (J w3.heap.size 4) v)∧Grow A5.L w5 A5.L (w5.setCell (J w3.heap.size 4) v)∧(w5.setCell (J w3.heap.size 4) v).cell? (J A.V (13+s))=some (A5.bH s)∧(w5.setCell (J w3.heap.size 4) v).frozen? (J A.V (13+s))=false):=by
   intro A5 w5 v A6 Qw q st
   have wE:A5.bc s=w3.heap.size:=by rw[st.bc];exact e3
   have x4:=q.call hc4 4 (v:=A5.bE s) rfl
   have z4:=q.pX hc4 4
   obtain⟨r6,g6⟩:=q.r9 hc4 v (some k)
   rw[<-Qw,wE] at r6
   rw[wE] at x4 z4 g6
   have e6:A6.V=A.V:=by rw[Qw];exact st.V.trans e1
   have m13:=r6.bT (13+s) (ed A6 _ hs)
   have JH:=r6.iE (13+s)
   rw[e6] at m13 JH
   rw[show A6.bH=A5.bH by rw[Qw]] at m13
   exact⟨x4,z4,r6,g6,m13,JH⟩
  have HY:=U (zA Qv (zA gb (zA ga (zA hst (zA e3 (zA e1 (zA hc4 (zA hcq hs))))))))
  clear hL ht hn hs hc4 hcq ra ga fa hB hblk hn1 rb gb hA1 e1 e2 e3 e4 Qv hst r1 g1 f1
  go_region
  generalize hw4:(w3.alloc _).drew=w4 at*
  clear hseq o0 o1 o2 o3 hw4
  go_wp2_with (go_at_call 70;refine HY.out.1.mono ?_;rintro e w5 ⟨A5,v,rfl,p1,p2,p3,p4⟩;obtain⟨f5,u5,u6,rfl,_⟩:=nY.enter p4;obtain⟨x4,z4,r6,g6,m13,JH⟩:=HN.out A5 w5 (.func (.func f5) u5 u6) _ rfl p1 p3;have HP:=U (zA p2 (zA p3 (zA p4 (zA r6 g6))));clear p1 p2 p3 p4 r6 g6)
  go_ret
  obtain⟨_,gb,ga,hst,e3,e1,hc4,hcq,hs⟩:=HY.out
  obtain⟨p2,p3,p4,r6,g6⟩:=HP.out
  obtain⟨r7,g7⟩:=r6.rZ hs (R w3.heap.size 0)
  obtain⟨A7,rC⟩:∃ A7:az,A7={A5 with bE:=lq A5.bE s (.func (.func f5) u5 u6),bH:=lq A5.bH s (R w3.heap.size 0)}:=⟨_,rfl⟩
  rw[show ({A5 with bE:=lq A5.bE s (.func (.func f5) u5 u6)}:az).V=A.V from p3.V.trans e1] at g7
  have r8:aF A7 (eF.aM s {c4 with k:=some k}) ((w5.setCell (J w3.heap.size 4) (.func (.func f5) u5 u6)).setCell (J A.V (13+s)) (R w3.heap.size 0)):=by
   rw[rC,<-show A5.V=A.V from p3.V.trans e1]
   exact r7
  have Sv:A7.L=A5.L:=by rw[rC]
  have gg:Grow A.L w A7.L ((w5.setCell (J w3.heap.size 4) (.func (.func f5) u5 u6)).setCell (J A.V (13+s)) (R w3.heap.size 0)):=by
   rw[Sv]
   exact (((ga.trans gb).trans p2).trans g6).trans g7
  have sq:=hst A5 p3
  have hc':(eF.aM s {c4 with k:=some k}).calls.getD s none=some {c4 with k:=some k}:=by rw[di (bR hc4),aW rfl]
  refine⟨A7,rfl,Live.of (s:=s) tN.out.1 MO.out r8 gg ⟨by rw[rC];exact sq.bf,by rw[rC];exact sq.mp,by rw[rC];exact sq.mt,fun q hq=>by rw[rC];exact sq.bt q hq,fun q hq=>by rw[rC];exact sq.bc q hq,fun q hq=>by rw[rC];exact sq.bx q hq,fun q hq=>by rw[rC];exact sq.aX q hq,fun q hq=>by rw[rC];exact (bJ _ _ hq).trans (sq.bE q hq),fun q hq=>by rw[rC];exact (bJ _ _ hq).trans (sq.bH q hq)⟩ (fun q hq=>?_) (fun c' hcc=>?_) (fun hnn=>by have h0:=hc'.symm.trans hnn;cases h0),gg,by rw[rC];exact sq.V⟩
  . rw[yY _ hq];exact hcq q hq
  . obtain rfl:{c4 with k:=some k}=c':=zj (hc'.symm.trans hcc)
    refine⟨?_,k,rfl,?_⟩
    . rw[rC]
      show lq A5.bH s _ s=ptr (A5.bc s)
      rw[lZ,p3.bc,e3]
    . have ek:kp A7 (eF.aM s {c4 with k:=some k}) s=kp A5 eF s:=by unfold kp;rw[bC hc',bC hc4,rC]
      have ev:A7.bE s=.func (.func f5) u5 u6:=by rw[rC];exact lZ _ _ _
      rw[ek,ev,Sv]
      exact p4.grow (g6.trans g7)
 )
theorem CU (hL:Live A D w) (s:Nat) (hs:s<8) (t:bL) (ht:D.ai.getD s none=some t) (o:En.Op) (ho:nX o=true) (he:gU o=false) (hn:D.calls.getD s none=none) (hop:t.ops<12) (BV:D.seq<4000000000000000000)
 (HF:AO (({(D.bM s {t with ops:=t.ops+1}) with seq:=D.seq+1}:St).aM s (gW o (D.seq+1))) s) (eF:St) (k:K) (hf:(({(D.bM s {t with ops:=t.ops+1}) with seq:=D.seq+1}:St).aM s (gW o (D.seq+1))).first s=(eF,k)) (c4:dY) (hc4:eF.calls.getD s none=some c4) (hcq:∀ q,q≠s->eF.calls.getD q none=D.calls.getD q none):
 zk 33 #[R A.V 0,I s,.agg #[I o.kind,I o.F,I o.hi,I o.value]] w (EZ A w (eF.aM s {c4 with k:=some k}) 0):=by
 have MO:Hid (eF.sw=D.sw∧eF.cut=D.cut):=U (by have h:=CQ (({(D.bM s {t with ops:=t.ops+1}) with seq:=D.seq+1}:St).aM s (gW o (D.seq+1))) s;rw[hf] at h;exact h);obtain⟨r0,g0,f0⟩:=dz hL.rep #[I o.kind,I o.F,I o.hi,I o.value] 27;have gG:=U (fQ s hs);have hok:=U (tV o ho);have hen:=U (AL o);rw[he] at hen;have b1:(s:Int)<8:=by omega
 have b0:(0:Int)<=(s:Int):=by omega
 have hV:∀ (A':az) (bF:St) E,aF A' bF E->A'.V=A.V->A'.bt=A.bt->A'.bH=A.bH->(∃ t',bF.ai.getD s none=some t')->zS E A.V (5+s) (A.bt s) 0∧E.cell? (J A.V (13+s))=some (.pointer none):=by
  rintro A' bF E r e1 e2 e3 ⟨t',ht'⟩;have h:=r.bT (5+s) (dQ A' bF hs);have h2:=r.bT (13+s) (ed A' bF hs);have e:A'.tp bF s=R (A.bt s) 0:=by unfold az.tp;rw[ht',e2]
  rw[e,e1] at h;rw[e1,e3,hL.idle s hs hn] at h2;exact⟨h,h2⟩
 have HW:Hid (∀ E,Below (w.alloc (.cells #[I o.kind,I o.F,I o.hi,I o.value] 27)).heap.size (w.alloc (.cells #[I o.kind,I o.F,I o.hi,I o.value] 27)) E->aF A D E∧Grow A.L w A.L E∧Fix A.L E w.heap.size (.cells #[I o.kind,I o.F,I o.hi,I o.value] 27)∧zS E A.V (5+s) (A.bt s) 0∧E.cell? (J A.V (13+s))=some (.pointer none)∧zT E (A.bt s) 5 t.ops∧E.frozen? (J (A.bt s) 5)=false∧zT E A.V 22 (D.seq:Int)∧E.frozen? (J A.V 22)=false):=by
  intro E Z;have r:=r0.below Z;have gb:=Grow.below (L:=A.L) Z;obtain⟨v1,v2⟩:=hV A D E r rfl rfl rfl ⟨t,ht⟩;exact⟨r,g0.trans gb,f0.grow gb,v1,v2,r.fI ht 5 rfl,r.vP ht 5,r.bT 22 rfl,r.iE 22⟩
 obtain⟨_,_,_,v1,v2,v3,v4,v5,v6⟩:=HW.out _ (Below.refl _ _);have tN:=U (zA hL (zA ht (zA hn (zA hs (zA hc4 hcq)))));have Su:=U (zA HF hf);have d1:decide ((12:Int)<=(t.ops:Int))=false:=by simp;omega
 have d2:((12:Int)<=(t.ops:Int))=False:=by simp;omega
 have d3:(12<=t.ops)=False:=by simp;omega
 have n1:IntKind.i64.wrap ((t.ops:Int)+1)=(t.ops:Int)+1:=by rw[je];omega
 have n2:IntKind.i64.wrap ((D.seq:Int)+1)=(D.seq:Int)+1:=by rw[je];omega
 clear hL r0 g0 f0 hs ho he hn hop BV HF hf hc4 hcq hV ht;go_enter Tryz.func33,Tryz.ntmps33;go_wp2_with (first|(go_at_call 40;refine (gG.out _).mono ?_;rintro e E ⟨rfl,rfl⟩)|(go_at_call 68;refine (hok.out _).mono ?_;rintro e H ⟨rfl,Z⟩;obtain⟨r1,g1,f1,x1,x2,x3,x4,x5,x6⟩:=HW.out H Z;have y0:=f1.cell 0 (v:=I o.kind) rfl;have y1:=f1.cell 1 (v:=I o.F) rfl;have y2:=f1.cell 2 (v:=I o.hi) rfl;have y3:=f1.cell 3 (v:=I o.value) rfl;have H1:=U Z;clear r1 g1 f1 Z)|(go_at_call 69;refine (hen.out _).mono ?_;rintro e w2 ⟨rfl,hb2⟩;obtain⟨r1,g1,f1,x1,x2,x3,x4,x5,x6⟩:=HW.out w2 (H1.out.trans (hb2.mono H1.out.size));have y0:=f1.cell 0 (v:=I o.kind) rfl;have y1:=f1.cell 1 (v:=I o.F) rfl;have y2:=f1.cell 2 (v:=I o.hi) rfl;have y3:=f1.cell 3 (v:=I o.value) rfl;have H2:=U (zA r1 (zA g1 f1));clear r1 g1 f1 hb2));obtain⟨r1,g1,f1⟩:=H2.out;obtain⟨hL,ht,hn,hs,hc4,hcq⟩:=tN.out;obtain⟨rt,gt⟩:=r1.ED ht {t with ops:=t.ops+1} 5 (I ((t.ops:Int)+1)) rfl rfl rfl rfl rfl;obtain⟨ra,NM⟩:=rt.JO (D.seq+1);rw[show ((D.seq+1:Nat):Int)=(D.seq:Int)+1 from rfl] at ra NM;have ga:=(g1.trans gt).trans NM;have fa:=f1.grow (gt.trans NM);clear NM rt gt;generalize (w2.setCell (J (A.bt s) 5) (I ((t.ops:Int)+1))).setCell (J A.V 22) (I ((D.seq:Int)+1))=w3 at*;have hseq:=ra.bT 22 (v:=I ((D.seq:Int)+1)) rfl;have o0:=fa.cell 0 (v:=I o.kind) rfl;have o1:=fa.cell 1 (v:=I o.F) rfl;have o2:=fa.cell 2 (v:=I o.hi) rfl;have o3:=fa.cell 3 (v:=I o.value) rfl;have hB:Below w3.heap.size w3 (w3.alloc (.cells #[I o.kind,I o.F,I o.hi,I o.value,.nilFunc,I 0,I 0,.slice none 0 0,I 0,I 0,.bool false,.bool false,I ((D.seq:Int)+1)] 141)).drew:=((Below.refl _ _).alloc (zr _) _).drew;have hblk:(w3.alloc (.cells #[I o.kind,I o.F,I o.hi,I o.value,.nilFunc,I 0,I 0,.slice none 0 0,I 0,I 0,.bool false,.bool false,I ((D.seq:Int)+1)] 141)).drew.heap[w3.heap.size]? =some (.cells (fP (A.ib s w3.heap.size .nilFunc) s (gW o (D.seq+1))).toArray 141):=by
  rw[show (fP (A.ib s w3.heap.size .nilFunc) s (gW o (D.seq+1))).toArray=#[I o.kind,I o.F,I o.hi,I o.value,.nilFunc,I 0,I 0,.slice none 0 0,I 0,I 0,.bool false,.bool false,I ((D.seq:Int)+1)] by simp[fP,az.ib,lq,gW]];exact heap_alloc_new w3 _
 have hn1:({(D.bM s {t with ops:=t.ops+1}) with seq:=D.seq+1}:St).calls.getD s none=none:=hn;obtain⟨rb,gb⟩:=ra.ib hB hs (zr _) .nilFunc (gW o (D.seq+1)) rfl hblk hn1;obtain⟨A1,hA1⟩:∃ A1:az,A1=A.ib s w3.heap.size .nilFunc:=⟨_,rfl⟩
 rw[<-hA1] at rb gb;have e1:A1.V=A.V:=by rw[hA1];rfl
 have e2:A1.bt=A.bt:=by rw[hA1];rfl
 have e3:A1.bc s=w3.heap.size:=by rw[hA1];exact aW rfl
 have e4:A1.mp=A.mp:=by rw[hA1];rfl
 have Qv:=Su.out.1 A1 _ rb (e4.trans hL.mp);rw[Su.out.2,e1,e2,e3] at Qv;have hst:∀ A5:az,bU A1 A5 s->yV A A5 s:=fun A5 st=>by
  refine⟨st.bf.trans (by rw[hA1];rfl),st.mp.trans e4,st.mt.trans (by rw[hA1];rfl),fun q _=>by rw[st.bt,e2],fun q hq=>by rw[st.bc,hA1];exact bu hq,fun q hq=>(st.bx q hq).trans (by rw[hA1];rfl),fun q hq=>(st.aX q hq).trans (by rw[hA1];exact bJ _ _ hq),fun q hq=>by rw[st.bE,hA1];exact bJ _ _ hq,fun q hq=>by rw[st.bH,hA1];rfl⟩
 have HN:Hid (∀ A5 w5 v A6,A6={A5 with bE:=lq A5.bE s v}->aF A5 eF w5->bU A1 A5 s->w5.cell? (J w3.heap.size 4)=some (A5.bE s)∧w5.frozen? (J w3.heap.size 4)=false∧aF A6 (eF.aM s {c4 with k:=some k}) (w5.setCell (J w3.heap.size 4) v)∧Grow A5.L w5 A5.L (w5.setCell (J w3.heap.size 4) v)∧(w5.setCell (J w3.heap.size 4) v).cell? (J A.V (13+s))=some (A5.bH s)∧(w5.setCell (J w3.heap.size 4) v).frozen? (J A.V (13+s))=false):=by
  intro A5 w5 v A6 Qw q st;have wE:A5.bc s=w3.heap.size:=by rw[st.bc];exact e3
  have x4:=q.call hc4 4 (v:=A5.bE s) rfl;have z4:=q.pX hc4 4;obtain⟨r6,g6⟩:=q.r9 hc4 v (some k);rw[<-Qw,wE] at r6;rw[wE] at x4 z4 g6;have e6:A6.V=A.V:=by rw[Qw];exact st.V.trans e1
  have m13:=r6.bT (13+s) (ed A6 _ hs);have JH:=r6.iE (13+s);rw[e6] at m13 JH;rw[show A6.bH=A5.bH by rw[Qw]] at m13;exact⟨x4,z4,r6,g6,m13,JH⟩
 have HY:=U (zA Qv (zA gb (zA ga (zA hst (zA e3 (zA e1 (zA hc4 (zA hcq hs))))))));clear hL ht hn hs hc4 hcq ra ga fa hB hblk hn1 rb gb hA1 e1 e2 e3 e4 Qv hst r1 g1 f1
 go_region
 generalize hw4:(w3.alloc _).drew=w4 at*;clear hseq o0 o1 o2 o3 hw4;go_wp2_with (go_at_call 70;refine HY.out.1.mono ?_;rintro e w5 ⟨A5,v,rfl,p1,p2,p3,p4⟩;obtain⟨f5,u5,u6,rfl,_⟩:=nY.enter p4;obtain⟨x4,z4,r6,g6,m13,JH⟩:=HN.out A5 w5 (.func (.func f5) u5 u6) _ rfl p1 p3;have HP:=U (zA p2 (zA p3 (zA p4 (zA r6 g6))));clear p1 p2 p3 p4 r6 g6);go_ret;obtain⟨_,gb,ga,hst,e3,e1,hc4,hcq,hs⟩:=HY.out;obtain⟨p2,p3,p4,r6,g6⟩:=HP.out;obtain⟨r7,g7⟩:=r6.rZ hs (R w3.heap.size 0);obtain⟨A7,rC⟩:∃ A7:az,A7={A5 with bE:=lq A5.bE s (.func (.func f5) u5 u6),bH:=lq A5.bH s (R w3.heap.size 0)}:=⟨_,rfl⟩
 rw[show ({A5 with bE:=lq A5.bE s (.func (.func f5) u5 u6)}:az).V=A.V from p3.V.trans e1] at g7;have r8:aF A7 (eF.aM s {c4 with k:=some k}) ((w5.setCell (J w3.heap.size 4) (.func (.func f5) u5 u6)).setCell (J A.V (13+s)) (R w3.heap.size 0)):=by
  rw[rC,<-show A5.V=A.V from p3.V.trans e1];exact r7
 have Sv:A7.L=A5.L:=by rw[rC]
 have gg:Grow A.L w A7.L ((w5.setCell (J w3.heap.size 4) (.func (.func f5) u5 u6)).setCell (J A.V (13+s)) (R w3.heap.size 0)):=by
  rw[Sv];exact (((ga.trans gb).trans p2).trans g6).trans g7
 have sq:=hst A5 p3;have hc':(eF.aM s {c4 with k:=some k}).calls.getD s none=some {c4 with k:=some k}:=by rw[di (bR hc4),aW rfl]
 refine⟨A7,rfl,Live.of (s:=s) tN.out.1 MO.out r8 gg ⟨by rw[rC];exact sq.bf,by rw[rC];exact sq.mp,by rw[rC];exact sq.mt,fun q hq=>by rw[rC];exact sq.bt q hq,fun q hq=>by rw[rC];exact sq.bc q hq,fun q hq=>by rw[rC];exact sq.bx q hq,fun q hq=>by rw[rC];exact sq.aX q hq,fun q hq=>by rw[rC];exact (bJ _ _ hq).trans (sq.bE q hq),fun q hq=>by rw[rC];exact (bJ _ _ hq).trans (sq.bH q hq)⟩ (fun q hq=>?_) (fun c' hcc=>?_) (fun hnn=>by have h0:=hc'.symm.trans hnn;cases h0),gg,by rw[rC];exact sq.V⟩
 . rw[yY _ hq];exact hcq q hq
 . obtain rfl:{c4 with k:=some k}=c':=zj (hc'.symm.trans hcc)
   refine⟨?_,k,rfl,?_⟩
   . rw[rC]
     show lq A5.bH s _ s=ptr (A5.bc s);rw[lZ,p3.bc,e3]
   . have ek:kp A7 (eF.aM s {c4 with k:=some k}) s=kp A5 eF s:=by unfold kp;rw[bC hc',bC hc4,rC]
     have ev:A7.bE s=.func (.func f5) u5 u6:=by rw[rC];exact lZ _ _ _
     rw[ek,ev,Sv];exact p4.grow (g6.trans g7)
theorem E8 (hL:Live A D w) (s:Nat) (hs:s<8) (t:bL) (ht:D.ai.getD s none=some t) (c:dY) (hc:D.calls.getD s none=some c) (k:K) (Y:c.k=some k) (aN:D.count<3000000000000000000) (aK:St) (ok:Option K) (aU:(D.aM s {c with waits:=false}).run s k=(aK,ok)) (HS:AJ (D.aM s {c with waits:=false}) s k) (c2:dY) (hc2:aK.calls.getD s none=some c2) (dl:Nat) (hdl:aK.count=D.count+dl) (hd1:dl<1000000) (hlk:aK.aA<1000000000000000000) (hcq:∀ q,q≠s->aK.calls.getD q none=D.calls.getD q none) (t2:bL) (ht2:aK.ai.getD s none=some t2) (htl:aK.aQ.length<1000000) (hok:ok=none) (hw:c2.waits=false) (hov:c2.over=true) (hpr:c2.r.aL.length<=1000000) (hro:c2.r.over=0):
 zk 34 #[R A.V 0,I s] w (Stepped A w (({aK.aM s {c2 with k:=ok} with aA:=aK.aA+dl,calls:=(aK.aM s {c2 with k:=ok}).calls.set s none}:St).event {kind:=2,t:=t2.id,op:=c2.op,res:=c2.r}) 3 c2.r):=by
 have MO:Hid (aK.sw=D.sw∧aK.cut=D.cut):=U (by have h:=EX (D.aM s {c with waits:=false}) s k;rw[aU] at h;exact h);obtain⟨Q,hQ⟩:∃ Q,Q=Stepped A w (({aK.aM s {c2 with k:=ok} with aA:=aK.aA+dl,calls:=(aK.aM s {c2 with k:=ok}).calls.set s none}:St).event {kind:=2,t:=t2.id,op:=c2.op,res:=c2.r}) 3 c2.r:=⟨_,rfl⟩
 rw[<-hQ];have HQ:=U hQ;clear hQ;obtain⟨r0,g0,fl,fh⟩:=hL.rep.o5 (.cells #[I 0,I 0,I 0,.slice none 0 0,I 0,I 0] 81);obtain⟨tL,k0,hk0,hkr⟩:=hL.call s hs c hc;obtain rfl:k=k0:=by rw[Y] at hk0;exact zj hk0
 obtain⟨fv,fb,fc,yX,hent⟩:=hkr.enter;have gG:=U (fQ s hs);have b1:(s:Int)<8:=by omega
 have b0:(0:Int)<=(s:Int):=by omega
 have v0:(w.alloc (.cells #[I 0,I 0,I 0,.slice none 0 0,I 0,I 0] 81)).cell? (J A.V (13+s))=zs (A.bc s) 0:=by rw[<-show A.bH s=R (A.bc s) 0 from tL];exact r0.bT (13+s) (ed (A.tmp w.heap.size) D hs)
 have v1:(w.alloc (.cells #[I 0,I 0,I 0,.slice none 0 0,I 0,I 0] 81)).cell? (J A.V (5+s))=zs (A.bt s) 0:=by
  have h:=r0.bT (5+s) (dQ (A.tmp w.heap.size) D hs);have e:(A.tmp w.heap.size).tp D s=R (A.bt s) 0:=by unfold az.tp;rw[ht];rfl
  rw[e] at h;exact h
 obtain⟨aC,mD⟩:∃ aC,aC=D.aM s {c with waits:=false}:=⟨_,rfl⟩
 rw[<-mD] at aU HS;have hc1:aC.calls.getD s none=some {c with waits:=false}:=by rw[mD,di (bR hc),aW rfl]
 have hkp:kp A aC s=kp A D s:=by unfold kp;rw[bC hc1,bC hc]
 have H5:Hid (∀ n w5,(w.alloc (.cells #[I 0,I 0,I 0,.slice none 0 0,I 0,I 0] 81)).drewN n=w5->zB w5 (A.bc s) 10 c.waits∧w5.frozen? (J (A.bc s) 10)=false∧∀ w6,w5.setCell (J (A.bc s) 10) (.bool false)=w6->zS w6 A.V 2 A.ba 0∧w6.cell? (J (A.bc s) 4)=some (.func (.func fv) fb fc)∧zk 71 #[R A.ba 0] w6 (fun e E=>e=.returned (I (D.count:Int))∧w6=E)∧zk fv (fb++fc) w6 (lF (A.tmp w.heap.size) w6 s (aK,ok))∧Grow A.L w (A.tmp w.heap.size).L w6∧((A.tmp w.heap.size).L w.heap.size=some .tmp∧w6.heap[w.heap.size]? =some (.cells #[I 0,I 0,I 0,.slice none 0 0,I 0,I 0] 81))):=by
  rintro n w5 rfl;have r5:=r0.drewN n;refine⟨r5.call hc 10 rfl,r5.pX hc 10,?_⟩;rintro w6 rfl;obtain⟨r6,g6⟩:=r5.rV hc {c with waits:=false} 10 (.bool false) rfl rfl;have yj:=(Grow.drewN (A.tmp w.heap.size).L (w.alloc (.cells #[I 0,I 0,I 0,.slice none 0 0,I 0,I 0] 81)) n).trans g6;have gg:=g0.trans yj;rw[<-mD] at r6;have h4:_=some (A.bE s):=r6.call hc1 4 rfl;rw[yX] at h4;have h4':(((w.alloc (.cells #[I 0,I 0,I 0,.slice none 0 0,I 0,I 0] 81)).drewN n).setCell (J (A.bc s) 10) (.bool false)).cell? (J (A.bc s) 4)=some (.func (.func fv) fb fc):=h4;have PE:=(hkr.grow gg)
  rw[yX,<-hkp] at PE;have hS:=HS (A.tmp w.heap.size) _ fv fb fc r6 hL.mp (hL.mt s) PE;rw[aU] at hS;have hcn:=jf r6 (by rw[mD];exact Nat.lt_trans aN (by decide));have hcc:aC.count=D.count:=by rw[mD];rfl
  rw[hcc] at hcn;exact⟨r6.bT 2 rfl,h4',hcn,hS,gg,fK ⟨fl,fh⟩ yj⟩
 have tN:=U hL;have HF:=U (zA hc2 (zA hdl (zA hcq (zA hs hlk))));have n1:IntKind.i64.wrap (((D.count+dl:Nat):Int) - (D.count:Int))=(dl:Int):=by rw[je];omega
 have n2:IntKind.i64.wrap ((aK.aA:Int)+(dl:Int))=((aK.aA+dl:Nat):Int):=by rw[je];omega
 have H7 : Hid (∀ A2 w2 v A3, A3 = { A2 with bE := lq A2.bE s v } -> aF A2 aK w2 -> bU (A.tmp w.heap.size) A2 s -> w2.cell? (J (A.bc s) 4) = some (A2.bE s) ∧ w2.frozen? (J (A.bc s) 4) = false ∧ ∀ w3, w2.setCell (J (A.bc s) 4) v = w3 -> zT w3 A.V 23 (aK.aA : Int) ∧ w3.frozen? (J A.V 23) = false ∧ zS w3 A.V 2 A.ba 0 ∧ zk 71 #[R A.ba 0] w3.drew (fun e E => e = .returned (I ((D.count + dl : Nat) : Int)) ∧ E = w3.drew) ∧
     ∀ w4,w3.drew.setCell (J A.V 23) (I ((aK.aA+dl:Nat):Int))=w4->aF A3 ({aK.aM s {c2 with k:=ok} with aA:=aK.aA+dl}) w4∧Grow A2.L w2 A2.L w4∧zB w4 (A.bc s) 10 c2.waits∧zB w4 (A.bc s) 11 c2.over):=by
  intro A2 w2 v A3 hA3 q st;have wE:A2.bc=A.bc:=st.bc;have PG:A2.V=A.V:=st.V;have Sj:A2.ba=A.ba:=st.ba;have x4:=q.call hc2 4 (v:=A2.bE s) rfl;have z4:=q.pX hc2 4;rw[wE] at x4 z4;refine⟨x4,z4,?_⟩;rintro w3 rfl;obtain⟨r3,g3⟩:=q.r9 hc2 v ok;rw[<-hA3,wE] at r3;rw[wE] at g3;have e3:A3.V=A.V:=by rw[hA3];exact PG
  have Sk:A3.ba=A.ba:=by rw[hA3];exact Sj
  have Sl:A3.bc=A.bc:=by rw[hA3];exact wE
  have Sm:A3.L=A2.L:=by rw[hA3]
  have y23:=r3.bT 23 (v:=I (aK.aA:Int)) rfl;have z23:=r3.iE 23;have y2:=r3.bT 2 (v:=R A3.ba 0) rfl;have hcn:=flip (jf r3.drew (by show aK.count<_;omega));rw[e3] at y23 z23 y2;rw[Sk] at hcn y2;rw[show (aK.aM s {c2 with k:=ok}).count=D.count+dl from hdl] at hcn;refine⟨y23,z23,y2,hcn,?_⟩;intro w4 hw4;obtain⟨r4,g4⟩:=r3.drew.rY (aK.aA+dl);rw[e3,hw4] at r4 g4;rw[Sm] at g4;have hc4:({aK.aM s {c2 with k:=ok} with aA:=aK.aA+dl}:St).calls.getD s none=some {c2 with k:=ok}:=by show (aK.aM s {c2 with k:=ok}).calls.getD s none=_;rw[di (bR hc2),aW rfl]
  have EY:=r4.call hc4 10 (v:=.bool c2.waits) rfl;have G6:=r4.call hc4 11 (v:=.bool c2.over) rfl;rw[Sl] at EY G6;exact⟨r4,(g3.trans (Grow.drew _ _)).trans g4,EY,G6⟩
 have hwx:(w.alloc (.cells #[I 0,I 0,I 0,.slice none 0 0,I 0,I 0] 81)).cell? (J (A.bc s) 10)=zb c.waits:=r0.call hc 10 rfl;have UC:=U tL;clear hL ht hc Y aN aU HS hc2 hdl hd1 hlk hcq r0 g0 fl fh tL hk0 hkr yX mD hc1 hkp hs;generalize (D.count:Int)=ca at*;generalize ((D.count+dl:Nat):Int)=cb at*;generalize ((aK.aA+dl:Nat):Int)=lb at*;go_enter Tryz.func34,Tryz.ntmps34;go_wp2_with (go_at_call 40;refine (gG.out _).mono ?_;rintro e E ⟨rfl,rfl⟩);generalize hw0:w.alloc _=w0 at*
 go_quiet (fail)
 generalize jg:w0.drewN _=w5;obtain⟨RL,PH,h6⟩:=H5.out _ w5 jg;obtain⟨y2,y4,hcn,hS,gg,fD⟩:=h6 _ rfl;have HC:=U hcn;have HX:=U (zA hS (zA gg fD));clear hcn hS gg fD h6 jg hw0 H5 v0 v1 hwx;go_wp2_with (go_at_call 71;refine HC.out.mono ?_;rintro e E ⟨rfl,rfl⟩);refine HX.out.1.mono ?_;rintro e w2 ⟨A2,v,rfl,q1,q2,q3,q4⟩;subst hok;have hv:v=.nilFunc:=q4;clear q4;subst hv;obtain⟨x4,z4,h3⟩:=H7.out A2 w2 .nilFunc _ rfl q1 q3;obtain⟨y23,z23,y2',hcn,h4⟩:=h3 _ rfl;have Sn:=U hcn;have G7:=U (zA q1 (zA q2 (zA q3 h4)));clear hcn h3 h4 q1 q2 q3 H7 RL PH y2 y4;go_wp2_with fail;generalize hw3:w2.setCell (J (A.bc s) 4) .nilFunc=w3 at*;refine wp_region_still_tail 14 (by kernel_rfl) (by kernel_rfl) ?_;simp only[jZ,j6,kg,kr]
 repeat still_step
 still_call Sn.out
 repeat still_step
 refine wpStill_nil ?_;change wpList _ _ _ _ _ w3.drew;have Sq:w3.drew.cell? (J A.V 23)=zt (aK.aA:Int):=y23;have Sr:w3.drew.frozen? (J A.V 23)=false:=z23;generalize w3.drew=wd at*;obtain⟨r4,g4,EY,G6⟩:=G7.out.2.2.2 _ rfl;rw[hw] at EY;rw[hov] at G6;obtain⟨hc2,hdl,hcq,hs,_⟩:=HF.out;have q3:=G7.out.2.2.1;have hc4:({aK.aM s {c2 with k:=none} with aA:=aK.aA+dl}:St).calls.getD s none=some {c2 with k:=none}:=by show (aK.aM s {c2 with k:=none}).calls.getD s none=_;rw[di (bR hc2),aW rfl]
 obtain⟨A4,Qx⟩:∃ A4:az,A4={A2 with bE:=lq A2.bE s .nilFunc}:=⟨_,rfl⟩
 rw[<-Qx] at r4;have Qy:A4.V=A.V:=by rw[Qx];exact q3.V
 have U9:A4.L=A2.L:=by rw[Qx]
 have m13:=r4.bT (13+s) (ed A4 _ hs);have JH:=r4.iE (13+s);obtain⟨r5,g5⟩:=r4.rZ hs (.pointer none);obtain⟨A5,Qz⟩:∃ A5:az,A5={A4 with bH:=lq A4.bH s (.pointer none)}:=⟨_,rfl⟩
 rw[<-Qz,Qy] at r5;rw[Qy] at g5 m13 JH;have Va:A5.L=A2.L:=by rw[Qz];exact U9
 rw[U9] at g5;have G8:yV A A5 s:=by
  rw[Qz,Qx];exact⟨q3.bf,q3.mp,q3.mt,fun q _=>congrFun q3.bt q,fun q _=>congrFun q3.bc q,q3.bx,q3.aX,fun q hq=>(bJ _ _ hq).trans (congrFun q3.bE q),fun q hq=>(bJ _ _ hq).trans (congrFun q3.bH q)⟩
 have QA:A5.bt=A.bt:=by rw[Qz,Qx];exact q3.bt
 have NN:A5.bc=A.bc:=by rw[Qz,Qx];exact q3.bc
 have UD:A5.bH s=.pointer none:=by rw[Qz];exact lZ _ _ _
 have m8:=r5.call hc4 8 (v:=I c2.r.over) rfl;have aY:=r5.mem.all (.aL s);rw[iM (A:=A5) hc4] at aY;obtain⟨pa,yw,hpv,_⟩:=Ow.bO aY.1;obtain⟨np,UE⟩:∃ np,np=c2.r.aL.length:=⟨_,rfl⟩
 rw[show ({c2 with k:=none}:dY).r.aL.length=np from UE.symm] at hpv;rw[NN] at m8;rw[show (c2.r.over:Int)=0 by rw[hro];rfl] at m8;have Vb:∀ (A6:az) (PI:St) E,aF A6 PI E->A6.bt=A.bt->A6.bc=A.bc->A6.aX=A5.aX->PI.ai.getD s none=some t2->PI.calls.getD s none=some {c2 with k:=none}->zT E (A.bt s) 0 t2.id∧zT E (A.bc s) 0 c2.op.kind∧zT E (A.bc s) 1 c2.op.F∧zT E (A.bc s) 2 c2.op.hi∧zT E (A.bc s) 3 c2.op.value∧zT E (A.bc s) 5 c2.r.e∧zT E (A.bc s) 6 c2.r.value∧E.cell? (J (A.bc s) 7)=some (.slice pa np yw)∧zT E (A.bc s) 8 c2.r.over∧zT E (A.bc s) 9 c2.r.aI:=by
  intro A6 PI E r b1 b2 b3 b4 b5;have x0:=r.fI b4 0 (v:=I t2.id) rfl;have y0:=r.call b5 0 (v:=I c2.op.kind) rfl;have y1:=r.call b5 1 (v:=I c2.op.F) rfl;have y2:=r.call b5 2 (v:=I c2.op.hi) rfl;have y3:=r.call b5 3 (v:=I c2.op.value) rfl;have y5:=r.call b5 5 (v:=I c2.r.e) rfl;have y6:=r.call b5 6 (v:=I c2.r.value) rfl;have y7:=r.call b5 7 (v:=A6.aX s) rfl;have y8:=r.call b5 8 (v:=I c2.r.over) rfl;have y9:=r.call b5 9 (v:=I c2.r.aI) rfl;rw[b1] at x0;rw[b2] at y0 y1 y2 y3 y5 y6 y7 y8 y9;rw[b3,hpv] at y7;exact⟨x0,y0,y1,y2,y3,y5,y6,y7,y8,y9⟩
 have HE:Hid (∀ w6 va vc,aF A5 ({aK.aM s {c2 with k:=none} with aA:=aK.aA+dl}:St) w6->lC A5.L w6 (.slice va np vc) (bQ c2.r.aL)->zk 50 #[R A.V 0,.agg #[I 2,I t2.id,zu 0,I c2.op.kind,I c2.op.F,I c2.op.hi,I c2.op.value,I c2.r.e,I c2.r.value,.slice va np vc,I c2.r.over,I c2.r.aI]] w6 (Does A5 w6 s (({aK.aM s {c2 with k:=none} with aA:=aK.aA+dl}:St).event {kind:=2,t:=t2.id,op:=c2.op,res:=c2.r}) (.tuple #[]))):=by
  intro w6 va vc r hp;have h:=mU r s {kind:=2,t:=t2.id,op:=c2.op,res:=c2.r} 2 t2.id 0 c2.op.kind c2.op.F c2.op.hi c2.op.value c2.r.e c2.r.value c2.r.over c2.r.aI va np vc rfl hp htl;rw[G8.V] at h;exact h
 have Xc:Hid (∀ (A6:az) (PI:St) E,aF A6 PI E->A6.aX=A5.aX->PI.calls.getD s none=some {c2 with k:=none}->Ow.Row E 0 2 (.slice pa np yw) (bQ c2.r.aL)):=by
  intro A6 PI E r b3 b5;have h:=r.mem.all (.aL s);rw[iM (A:=A6) b5] at h;have h2:=GM h.1;rw[b3,hpv] at h2;exact h2
 have UF:=U (zA UE.symm (by rw[UE];exact hpr:np<=1000000));have PK:=U Vb;have fD:=fK (fK (fK HX.out.2.2 G7.out.2.1) g4) g5;have HY:=U (zA r5 (zA (g4.trans g5) (zA fD (zA hpr (zA hro (zA ht2 (zA hc4 (zA G8 (zA QA (zA NN (zA UD Va)))))))))));have S0:=Vb A5 _ _ r5 QA NN rfl ht2 hc4;clear UE Vb r4 g4 r5 g5 fD aY hpv q3 hc4 hc2 hdl hcq hw hov hpr hro ht2 Qx Qz Qy U9 Va G8 QA NN UD htl;go_wp2_with fail;generalize jg:World.setCell (World.setCell wd _ _) _ _=w5 at*;have XZ:Hid (∀ E,Below w5.heap.size w5 E->zT E (A.bt s) 0 t2.id∧zT E (A.bc s) 0 c2.op.kind∧zT E (A.bc s) 1 c2.op.F∧zT E (A.bc s) 2 c2.op.hi∧zT E (A.bc s) 3 c2.op.value∧zT E (A.bc s) 5 c2.r.e∧zT E (A.bc s) 6 c2.r.value∧E.cell? (J (A.bc s) 7)=some (.slice pa np yw)∧zT E (A.bc s) 8 c2.r.over∧zT E (A.bc s) 9 c2.r.aI):=fun E Z=>PK.out A5 _ _ (HY.out.1.below Z) HY.out.2.2.2.2.2.2.2.2.1 HY.out.2.2.2.2.2.2.2.2.2.1 rfl HY.out.2.2.2.2.2.1 HY.out.2.2.2.2.2.2.1
 have Xd:Hid (∀ A7 E,aF A7 (({aK.aM s {c2 with k:=none} with aA:=aK.aA+dl}:St).event {kind:=2,t:=t2.id,op:=c2.op,res:=c2.r}) E->bU A5 A7 s->A7.aX=A5.aX->zT E (A.bt s) 0 t2.id∧zT E (A.bc s) 0 c2.op.kind∧zT E (A.bc s) 1 c2.op.F∧zT E (A.bc s) 2 c2.op.hi∧zT E (A.bc s) 3 c2.op.value∧zT E (A.bc s) 5 c2.r.e∧zT E (A.bc s) 6 c2.r.value∧E.cell? (J (A.bc s) 7)=some (.slice pa np yw)∧zT E (A.bc s) 8 c2.r.over∧zT E (A.bc s) 9 c2.r.aI):=fun A7 E r st vp=>PK.out A7 _ _ r (st.bt.trans HY.out.2.2.2.2.2.2.2.2.1) (st.bc.trans HY.out.2.2.2.2.2.2.2.2.2.1) vp HY.out.2.2.2.2.2.1 HY.out.2.2.2.2.2.2.1
 have HRW:Hid (∀ E,Below w5.heap.size w5 E->Ow.Row E 0 2 (.slice pa np yw) (bQ c2.r.aL)):=fun E Z=>Xc.out A5 _ _ (HY.out.1.below Z) rfl HY.out.2.2.2.2.2.2.1
 have Ya:Hid (∀ b,w5.heap.size<=b->A5.L b=none):=HY.out.1.mem.fresh
 go_region_held3 (fun E=>zT E (A.bt s) 0 t2.id∧zT E (A.bc s) 0 c2.op.kind∧zT E (A.bc s) 1 c2.op.F∧zT E (A.bc s) 2 c2.op.hi∧zT E (A.bc s) 3 c2.op.value∧zT E (A.bc s) 5 c2.r.e∧zT E (A.bc s) 6 c2.r.value∧E.cell? (J (A.bc s) 7)=some (.slice pa np yw)∧zT E (A.bc s) 8 c2.r.over∧zT E (A.bc s) 9 c2.r.aI)
  (first|exact S0|assumption|exact XZ.out _ (by assumption)|exact Xd.out _ _ (by assumption) (by assumption) (by assumption))
  (first|(go_at_call 53;refine (rz _ _ _ _ _ _ _ _ c2.r.aL (HRW.out _ ((Below.refl _ w5).drew)) UF.out.1 UF.out.2).mono ?_;rintro e w6 ⟨ca,cc,rfl,ho,Z⟩;have hb5:Below w5.heap.size w5 w6:=((Below.refl _ w5).drew).trans Z;have Yb:lC A5.L w6 (.slice ca np cc) (bQ c2.r.aL):=uN ho (fun b h _=>Ya.out b h);clear Z ho)|(go_at_call 50;refine (HE.out _ _ _ (HY.out.1.below (by assumption)) (by assumption)).mono ?_;rintro e w7 ⟨rfl,A7,p1,p2,p3,p4,p5⟩))
 obtain⟨_,_,_,_,_,s5,s6,s7,s8,s9⟩:=Xd.out _ _ p1 p3 p5;rw[HY.out.2.2.2.2.2.2.2.2.2.2.2] at p2;have Xe:=U (fK (fK HY.out.2.2.1 (Grow.below (L:=A2.L) hb5)) p2);have H7:=U (zA p1 (zA ((Grow.below (L:=A2.L) hb5).trans p2) (zA p3 (zA p4 p5))));have Yc:=U (Xc.out A7 _ _ p1 p5 HY.out.2.2.2.2.2.2.1);have Yd:=U p1.mem.fresh;clear p1 p2 p3 p4 p5 hb5 S0 Yb;go_wp2_with (first|(go_at_call 53;refine (rz _ _ _ _ _ _ _ _ c2.r.aL Yc.out UF.out.1 UF.out.2).mono ?_;rintro e w8 ⟨da,dc,rfl,Xf,wF⟩;have Ye:=U Xf;clear Xf;have Vd:=U wF;have CR:=U (kP (fK Xe.out (Grow.below (L:=A7.L) wF)).2);clear wF)|(refine wpList_store_mid rfl 81 (.tmp 4) (.tmp 115) rfl w.heap.size 0 #[I 3,I c2.r.e,I c2.r.value,.slice da np dc,I c2.r.over,I c2.r.aI] rfl rfl CR.out (by kernel_rfl) (by simp[Value.oneCell']) ?_;generalize hws:World.setCells _ _ _ _=ws));have dE:=But.setCells w.heap.size [I 3,I c2.r.e,I c2.r.value,.slice da np dc,I c2.r.over,I c2.r.aI] 0 w8;have fD:=fK Xe.out (Grow.below (L:=A7.L) Vd.out);have hfin:=kN fD.2 (I 3) (I c2.r.e) (I c2.r.value) (.slice da np dc) (I c2.r.over) (I c2.r.aI);rw[show w8.setCells w.heap.size 0 [I 3,I c2.r.e,I c2.r.value,.slice da np dc,I c2.r.over,I c2.r.aI]=ws from hws] at dE hfin
 (try simp only[Exit.inBlock,Exit.then])
 refine bodyPost_ret (eZ rfl _ _ w.heap.size 81 #[I 3,I c2.r.e,I c2.r.value,.slice da np dc,I c2.r.over,I c2.r.aI] _ _ rfl hfin Tryz.underlying81 rfl (by kernel_rfl)) rfl ?_;rw[HQ.out];obtain⟨hc2,hdl,hcq,hs,_⟩:=HF.out;obtain⟨q1,q2,q3,_⟩:=G7.out;obtain⟨_,g5,_,hpr,_,_,_,G8,_,_,UD,Va⟩:=HY.out;obtain⟨p1,p2,p3,p4,p5⟩:=H7.out;have r7:=((p1.below Vd.out).Cf s).but fD.1 dE;have gg:=(((((HX.out.2.1.trans q2).trans g5).trans p2).trans (Grow.below (L:=A7.L) Vd.out)).but (zr _) dE)
 have hlen:s<(aK.aM s {c2 with k:=none}).calls.length:=by have:=bR hc2;simpa [St.aM] using this
 have hns:((aK.aM s {c2 with k:=none}).calls.set s none).getD s none=none:=by rw[kL _ _ _ _ _ hlen,aW rfl]
 refine⟨A7,.slice da np dc,rfl,(uN (Az Ye.out dE fD.2 (by decide)) (fun b h _=>Yd.out b h)).1,Live.of (s:=s) tN.out MO.out r7 gg ⟨p3.bf.trans G8.bf,p3.mp.trans G8.mp,p3.mt.trans G8.mt,fun q hq=>(congrFun p3.bt q).trans (G8.bt q hq),fun q hq=>(congrFun p3.bc q).trans (G8.bc q hq),fun q hq=>(p3.bx q hq).trans (G8.bx q hq),fun q hq=>(p3.aX q hq).trans (G8.aX q hq),fun q hq=>(congrFun p3.bE q).trans (G8.bE q hq),fun q hq=>(congrFun p3.bH q).trans (G8.bH q hq)⟩ (fun q hq=>?_) (fun c' hcc=>?_) (fun hnn=>(congrFun p3.bH s).trans UD),gg,p3.V.trans G8.V⟩
 . show ((aK.aM s {c2 with k:=none}).calls.set s none).getD q none=_
   rw[kL _ _ _ _ _ hlen,bu hq,di (bR hc2),bu hq];exact hcq q hq
 . have h0:=hns.symm.trans hcc
   cases h0
theorem ma (a b:Value) (n:Nat):(madeCells #[a,b] (n*2)).toList=two (List.replicate n (a,b)):=by
 apply List.ext_getElem?
 intro i;have e1:(madeCells #[a,b] (n*2)).toList[i]? =if i<n*2 then some (#[a,b][i % 2]!) else none:=by
  by_cases h:i<n*2
  . rw[aW h];simp[madeCells,h]
  . rw[bu h,List.getElem?_eq_none_iff];simp[madeCells];omega
 rw[e1]
 by_cases h:i<n*2
 . rw[aW h]
   have hr:(List.replicate n (a,b))[i / 2]? =some (a,b):=by rw[List.getElem?_replicate,aW (by omega)]
   obtain⟨h0,h1⟩:=Ap (List.replicate n (a,b)) (i / 2) hr
   rcases Nat.mod_two_eq_zero_or_one i with hm|hm
   . rw[show 2*(i / 2)=i by omega] at h0
     rw[h0,hm];rfl
   . rw[show 2*(i / 2)+1=i by omega] at h1
     rw[h1,hm];rfl
 . rw[bu h]
   symm
   rw[List.getElem?_eq_none_iff,EE];simp;omega
theorem Sw:(Tryz.prog.info? 186).map (fun i=>(i.zero,i.size,i.bytes))=some (some (.agg #[zu 0]),1,8):=by kernel_rfl
theorem Sy:(Tryz.prog.info? 190).map (fun i=>(i.zero,i.size,i.bytes))=some (some (.agg #[I 0,I 0]),2,16):=by kernel_rfl
theorem Sz:(Tryz.prog.info? 243).map (fun i=>(i.zero,i.size,i.bytes))=some (some (.agg #[I 0,.bool false]),2,16):=by kernel_rfl
theorem E9 (n:Nat) (h:n<=100000) (w:World):(Instr.makeSlice 179 (I n) (I n)).run Tryz.prog w=.ok (.slice (some (J w.heap.size 0)) n n) (w.alloc (.cells (madeCells #[zu 0] n) 186)):=by
 obtain⟨i,hi,hz0,hz1,hz2⟩:=info_parts Sw;have:=run_make (P:=Tryz.prog) w 179 186 i _ Tryz.underlying179 hi hz0 .i64 .i64 n n (by omega) (Int.le_refl _) (by rw[hz2];omega) (by omega);rw[hz1] at this
 simpa [Value.cells] using this
theorem IE (n:Nat) (h:n<=100000) (w:World):(Instr.makeSlice 206 (I n) (I n)).run Tryz.prog w=.ok (.slice (some (J w.heap.size 0)) n n) (w.alloc (.cells (madeCells #[I 0,.bool false] (n*2)) 243)):=by
 obtain⟨i,hi,hz0,hz1,hz2⟩:=info_parts Sz;have:=run_make (P:=Tryz.prog) w 206 243 i _ Tryz.underlying206 hi hz0 .i64 .i64 n n (by omega) (Int.le_refl _) (by rw[hz2];omega) (by omega);rw[hz1] at this
 simpa [Value.cells] using this
theorem CV (n:Nat) (h:n<=100000) (w:World):(Instr.makeSlice 103 (I n) (I n)).run Tryz.prog w=.ok (.slice (some (J w.heap.size 0)) n n) (w.alloc (.cells (madeCells #[I 0,I 0] (n*2)) 190)):=by
 obtain⟨i,hi,hz0,hz1,hz2⟩:=info_parts Sy;have:=run_make (P:=Tryz.prog) w 103 190 i _ Tryz.underlying103 hi hz0 .i64 .i64 n n (by omega) (Int.le_refl _) (by rw[hz2];omega) (by omega);rw[hz1] at this
 simpa [Value.cells] using this
theorem Km (n:Nat) (h1:1<=n) (h2:n<=100000) (w:World):zk 77 #[I n] w fun e E=>e=.returned (.tuple #[.pointer (some ⟨w.heap.size+1,0,none⟩),I 0])∧E=(w.alloc (.cells (madeCells #[zu 0] n) 186)).alloc (.cells #[.slice (some (J w.heap.size 0)) n n,I 0] 184):=by
 have hm:=fun w=>E9 n h2 w
 have d1:decide ((n:Int)<1)=false:=by simp;omega
 have d2:((n:Int)<1)=False:=by simp;omega
 have d3:decide ((100000:Int)<(n:Int))=false:=by simp;omega
 have d4:((100000:Int)<(n:Int))=False:=by simp;omega
 have d5:(n<1)=False:=by simp;omega
 have d6:(100000<n)=False:=by simp;omega
 have d7:(n=0)=False:=by simp;omega
 clear h1 h2;go_enter Tryz.func77,Tryz.ntmps77;go_wp2
 go_ret2
 exact⟨rfl,rfl⟩
theorem NP (n:Nat) (h1:1<=n) (h2:n<=4096) (w:World):zk 78 #[I n,I 65535] w fun e E=>e=.returned (.tuple #[.pointer (some ⟨w.heap.size+1,0,none⟩),I 0])∧E=(w.alloc (.cells (madeCells #[I 0,.bool false] (n*2)) 243)).alloc (.cells #[.slice (some (J w.heap.size 0)) n n,I 65535,.slice none 0 0,I 0,.int .u32 0,.int .i32 0,.int .u32 0] 208):=by
 have hm:=fun w=>IE n (by omega) w
 have d1:decide ((n:Int)<1)=false:=by simp;omega
 have d2:((n:Int)<1)=False:=by simp;omega
 have d3:decide ((4096:Int)<(n:Int))=false:=by simp;omega
 have d4:((4096:Int)<(n:Int))=False:=by simp;omega
 have d5:(n<1)=False:=by simp;omega
 have d6:(4096<n)=False:=by simp;omega
 have d7:(n=0)=False:=by simp;omega
 clear h1 h2;go_enter Tryz.func78,Tryz.ntmps78;go_wp2
 go_ret2
 exact⟨rfl,rfl⟩
theorem QB (n l:Nat) (h1:1<=n) (h2:n<=256) (h3:1<=l) (h4:l<=1099511627776) (w:World):zk 76 #[.agg #[I n,zu l]] w fun e E=>e=.returned (.bool true)∧Below w.heap.size w E:=by
 have Z:Below w.heap.size w (w.alloc (.cells #[I n,zu l] 66)):=(Below.refl _ _).alloc (zr _) _;have HB:=U Z;have d1:decide ((1:Int)<=(n:Int))=true:=by simp;omega
 have d2:decide ((n:Int)<=256)=true:=by simp;omega
 have d3:decide ((1:Int)<=(l:Int))=true:=by simp;omega
 have d4:decide ((l:Int)<=1099511627776)=true:=by simp;omega
 have e1:((1:Int)<=(n:Int))=True:=by simp;omega
 have e2:((n:Int)<=256)=True:=by simp;omega
 have e3:((1:Int)<=(l:Int))=True:=by simp;omega
 have e4:((l:Int)<=1099511627776)=True:=by simp;omega
 have g1:(1<=n)=True:=by simp;omega
 have g2:(n<=256)=True:=by simp;omega
 have g3:(1<=l)=True:=by simp;omega
 have g5:(0<n)=True:=by simp;omega
 have g6:(0<l)=True:=by simp;omega
 clear h1 h2 h3 h4 Z;go_enter Tryz.func76,Tryz.ntmps76;go_wp2;go_ret;exact⟨rfl,HB.out⟩
def book0 (V ba bw bp bs bv:Nat):az where
 L:=fun k=>if k=V then some .bT else if k=ba then some .arena else if k=bw then some .words else if k=bp then some .bP else if k=bs then some .tags else if k=bv then some .values else none
 V:=V
 ba:=ba
 bw:=bw
 bp:=bp
 bs:=bs
 bv:=bv
 bt:=fun _=>0
 bm:=fun _=>0
 bc:=fun _=>0
 bx:=fun _ _=>0
 fH:=.slice none 0 0
 jP:=.slice none 0 0
 jc:=.slice none 0 0
 hcut:=false
 gu:=0
 eP:=.nilFunc
 fu:=fun _=>.slice none 0 0
 fO:=fun _=>.slice none 0 0
 eQ:=fun _=>.slice none 0 0
 aX:=fun _=>.slice none 0 0
 bE:=fun _=>.nilFunc
 bH:=fun _=>.pointer none
 gV:=[]
 eG:=[]
 mp:=0
 mt:=fun _=>0
 lX:=fun _=>false
theorem CW {α:Type} (n s:Nat) (d:α):(List.replicate n d).getD s d=d:=by
 rw[mM,List.getElem?_replicate]
 split<;>rfl
theorem NQ {w:World} {n l V ba bw bp bs bv:Nat} (hn:1<=n∧n<=256)
 (d:V≠ba∧V≠bw∧V≠bp∧V≠bs∧V≠bv∧ba≠bw∧ba≠bp∧ba≠bs∧ba≠bv∧bw≠bp∧bw≠bs∧bw≠bv∧bp≠bs∧bp≠bv∧bs≠bv)
 (h1:w.heap[V]? =some (.cells #[I n,zu l,R ba 0,R bp 0,.slice (some (J bv 0)) n n,.pointer none,.pointer none,.pointer none,.pointer none,.pointer none,.pointer none,.pointer none,.pointer none,.pointer none,.pointer none,.pointer none,.pointer none,.pointer none,.pointer none,.pointer none,.pointer none,I 0,I 0,I 0,.slice none 0 0,.nilFunc,zu 0,.slice none 0 0,.bool false] 111))
 (h2:w.heap[ba]? =some (.cells #[.slice (some (J bw 0)) (73+n*3+2000+1) (73+n*3+2000+1),I 0] 184))
 (h3:w.heap[bw]? =some (.cells (madeCells #[zu 0] (73+n*3+2000+1)) 186))
 (h4:w.heap[bp]? =some (.cells #[.slice (some (J bs 0)) n n,I 65535,.slice none 0 0,I 0,.int .u32 0,.int .i32 0,.int .u32 0] 208))
 (h5:w.heap[bs]? =some (.cells (madeCells #[I 0,.bool false] (n*2)) 243))
 (h6:w.heap[bv]? =some (.cells (madeCells #[I 0,I 0] (n*2)) 190)):Live (book0 V ba bw bp bs bv) (new n l) w:=by
 obtain⟨d1,d2,d3,d4,d5,d6,d7,d8,d9,SA,Yf,Yg,Yh,Yi,Yj⟩:=d;have hto:∀ (a:Array Value) (l:List Value),a.toList=l->a=l.toArray:=fun a l h=>by rw[<-h]
 have e3:=hto _ _ (toList_madeCells_one (zu 0) (73+n*3+2000+1));have e5:=hto _ _ (ma (I 0) (.bool false) n);have e6:=hto _ _ (ma (I 0) (I 0) n);rw[e3] at h3;rw[e5] at h5;rw[e6] at h6;have htx:∀ s,(new n l).ai.getD s none=none:=fun s=>CW 8 s none
 have hcl:∀ s,(new n l).calls.getD s none=none:=fun s=>CW 8 s none
 have hm:Holds (book0 V ba bw bp bs bv).L w (bB (book0 V ba bw bp bs bv) (new n l)):=by
  refine⟨fun r=>?_,fun b Z=>?_⟩
  . cases r
    case bT=>exact⟨by simp[book0],h1⟩
    case arena=>exact⟨by simp[book0,Ne.symm d1],by simpa [bB,oP,new,book0,i64] using h2⟩
    case words=>exact⟨by simp[book0,Ne.symm d2,Ne.symm d6],by simpa [bB,new,book0,u64] using h3⟩
    case bP=>exact⟨by simp[book0,Ne.symm d3,Ne.symm d7,Ne.symm SA],by simpa [bB,mq,ji,new,book0,i64] using h4⟩
    case tags=>exact⟨by simp[book0,Ne.symm d4,Ne.symm d8,Ne.symm Yf,Ne.symm Yh],by simpa [bB,yK,new,book0,i64] using h5⟩
    case values=>exact⟨by simp[book0,Ne.symm d5,Ne.symm d9,Ne.symm Yg,Ne.symm Yi,Ne.symm Yj],by simpa [bB,oQ,new,book0,i64] using h6⟩
    case free=>exact⟨World.ownsRow_nil _ 0 _ _,fun g hg=>by cases hg⟩
    case aQ=>exact⟨World.ownsRow_nil _ 0 _ _,fun g hg=>by cases hg⟩
    case cut=>trivial
    case tmp=>trivial
    case fI s=>simp only[bB,htx];trivial
    case map s=>simp only[bB,htx];trivial
    case cell s F=>simp only[bB,htx];trivial
    case keys s=>simp only[bB,htx];trivial
    case reads s=>simp only[bB,htx];trivial
    case aR s=>simp only[bB,htx];trivial
    case call s=>simp only[bB,hcl];trivial
    case aL s=>simp only[bB,hcl];trivial
  . have l1:=gH h1
    have l2:=gH h2;have l3:=gH h3;have l4:=gH h4;have l5:=gH h5;have l6:=gH h6;show (if b=V then some bW.bT else _)=none;rw[bu (by omega),bu (by omega),bu (by omega),bu (by omega),bu (by omega),bu (by omega)]
 refine⟨⟨hm,rfl,hn,by simp[new],by simp[new],by simp[new],by simp[new],by simp[new]⟩,rfl,fun _=>rfl,fun s _ c hc=>absurd ((hcl s).symm.trans hc) (by simp),fun s _ _=>rfl,⟨rfl,.inl ⟨rfl,rfl,rfl⟩⟩⟩
theorem IG (n l:Nat) (h1:1<=n) (h2:n<=256) (h3:1<=l) (h4:l<=1099511627776) (w:World):zk 37 #[.agg #[I n,zu l]] w fun e E=>∃ A,e=.returned (.tuple #[R A.V 0,I 0])∧Live A (new n l) E∧Grow (fun _=>none) w A.L E:=by
 have hco:=U (QB n l h1 h2 h3 h4);have Xg:=U (fun w=>Km (73+n*3+2000+1) (by omega) (by omega) w);have hpn:=U (fun w=>NP n h1 (by omega) w);have hmv:=fun w=>CV n (by omega) w
 have ea:((73+n*3+2000+1:Nat):Int)=73+(n:Int)*3+2000+1:=by omega
 rw[ea] at Xg;have n1:IntKind.i64.wrap ((n:Int)*3)=(n:Int)*3:=by rw[je];omega
 have n2:IntKind.i64.wrap (73+(n:Int)*3)=73+(n:Int)*3:=by rw[je];omega
 have n3:IntKind.i64.wrap (73+(n:Int)*3+2000)=73+(n:Int)*3+2000:=by rw[je];omega
 have n4:IntKind.i64.wrap (73+(n:Int)*3+2000+1)=73+(n:Int)*3+2000+1:=by rw[je];omega
 have HN:=U (zA h1 h2);have x0:(w.alloc (.cells #[I n,zu l] 66)).cell? (J w.heap.size 0)=zt n:=by rw[cell_of_row _ _ 0 _ _ _ (heap_alloc_new w _)];rfl
 have x1:(w.alloc (.cells #[I n,zu l] 66)).cell? (J w.heap.size 1)=zv l:=by rw[cell_of_row _ _ 1 _ _ _ (heap_alloc_new w _)];rfl
 have HC:Hid (∀ H,Below (w.alloc (.cells #[I n,zu l] 66)).heap.size (w.alloc (.cells #[I n,zu l] 66)) H->zT H w.heap.size 0 n∧zV H w.heap.size 1 l∧w.heap.size<H.heap.size):=by
  intro H Z;have hs:=kH w (.cells #[I n,zu l] 66);have hz:=Z.size;exact⟨(Z.cell (p:=(J w.heap.size 0)) (by rw[hs];exact Nat.lt_succ_self _)).trans x0,(Z.cell (p:=(J w.heap.size 1)) (by rw[hs];exact Nat.lt_succ_self _)).trans x1,by omega⟩
 have HB2:Hid (∀ (H w2:World) (a b:Obj),w2=(H.alloc a).alloc b->w.heap.size<H.heap.size->H.cell? (J w.heap.size 0)=zt n->H.cell? (J w.heap.size 1)=zv l->zT w2 w.heap.size 0 n∧zV w2 w.heap.size 1 l∧w.heap.size<w2.heap.size):=by
  rintro H w2 a b rfl hl k0 k1;have Z:Below H.heap.size H ((H.alloc a).alloc b):=((Below.refl _ _).alloc (zr _) _).alloc (by simp) _;exact⟨(Z.cell (p:=(J w.heap.size 0)) hl).trans k0,(Z.cell (p:=(J w.heap.size 1)) hl).trans k1,yI hl Z.size⟩
 clear h1 h2 h3 h4 ea;go_enter Tryz.func37,Tryz.ntmps37;go_wp2_with (first|(go_at_call 76;refine (hco.out _).mono ?_;rintro e H ⟨rfl,Z⟩;obtain⟨y0,y1,hsz⟩:=HC.out H Z;have HB:=U (zA Z hsz);clear Z hsz)|(go_at_call 77;refine (Xg.out _).mono ?_;rintro e w2 ⟨rfl,hw2⟩;obtain⟨z0,z1,hl2⟩:=HB2.out H w2 _ _ hw2 HB.out.2 y0 y1;have H2:=U (zA hw2 hl2);clear hw2 hl2)|(go_at_call 78;refine (hpn.out _).mono ?_;rintro e w3 ⟨rfl,hw3⟩;obtain⟨u0,u1,hl3⟩:=HB2.out w2 w3 _ _ hw3 H2.out.2 z0 z1;have H3:=U (zA hw3 hl3);clear hw3 hl3));have v0:(w3.alloc (.cells (madeCells #[I 0,I 0] (n*2)) 190)).cell? (J w.heap.size 0)=zt n:=by rw[World.cell?_alloc_past _ _ _ H3.out.2];exact u0
 have v1:(w3.alloc (.cells (madeCells #[I 0,I 0] (n*2)) 190)).cell? (J w.heap.size 1)=zv l:=by rw[World.cell?_alloc_past _ _ _ H3.out.2];exact u1
 go_region
 go_wp2_with fail
 go_ret2
 obtain⟨hw2,_⟩:=H2.out;obtain⟨hw3,_⟩:=H3.out;obtain⟨hb1,hl1⟩:=HB.out;have AP:∀ (w:World) (a b:Obj),((w.alloc a).alloc b).heap[w.heap.size]? =some a:=fun w a b=>(Below.heap_alloc _ _ _ (by simp)).trans (heap_alloc_new w a)
 have s2:w2.heap.size=H.heap.size+2:=by rw[hw2];simp
 have s3:w3.heap.size=w2.heap.size+2:=by rw[hw3];simp
 have RN:∀ (w:World) (a b:Obj),Below w.heap.size w ((w.alloc a).alloc b):=fun w a b=>((Below.refl _ _).alloc (zr _) _).alloc (by simp) _
 have Xh:=AP H (.cells (madeCells #[zu 0] (73+n*3+2000+1)) 186) (.cells #[.slice (some (J H.heap.size 0)) (73+n*3+2000+1) (73+n*3+2000+1),I 0] 184);have Xi:=heap_alloc2_new H (.cells (madeCells #[zu 0] (73+n*3+2000+1)) 186) (.cells #[.slice (some (J H.heap.size 0)) (73+n*3+2000+1) (73+n*3+2000+1),I 0] 184);rw[<-hw2] at Xh Xi;have Xj:=AP w2 (.cells (madeCells #[I 0,.bool false] (n*2)) 243) (.cells #[.slice (some (J w2.heap.size 0)) n n,I 65535,.slice none 0 0,I 0,.int .u32 0,.int .i32 0,.int .u32 0] 208);have Xk:=heap_alloc2_new w2 (.cells (madeCells #[I 0,.bool false] (n*2)) 243) (.cells #[.slice (some (J w2.heap.size 0)) n n,I 65535,.slice none 0 0,I 0,.int .u32 0,.int .i32 0,.int .u32 0] 208);rw[<-hw3] at Xj Xk;have b12:Below H.heap.size H w2:=by rw[hw2];exact RN _ _ _
 have Ve:Below w2.heap.size w2 w3:=by rw[hw3];exact RN _ _ _
 have SB:=(RN w3 (.cells (madeCells #[I 0,I 0] (n*2)) 190) (.cells #[I n,zu l,.pointer (some ⟨H.heap.size+1,0,none⟩),.pointer (some ⟨w2.heap.size+1,0,none⟩),.slice (some (J w3.heap.size 0)) n n,.pointer none,.pointer none,.pointer none,.pointer none,.pointer none,.pointer none,.pointer none,.pointer none,.pointer none,.pointer none,.pointer none,.pointer none,.pointer none,.pointer none,.pointer none,.pointer none,I 0,I 0,I 0,.slice none 0 0,.nilFunc,zu 0,.slice none 0 0,.bool false] 111)).drew;have Yk:Below w.heap.size w H:=((Below.refl _ _).alloc (zr _) _).trans (hb1.mono (by simp));have Yl:=AP w3 (.cells (madeCells #[I 0,I 0] (n*2)) 190) (.cells #[I n,zu l,.pointer (some ⟨H.heap.size+1,0,none⟩),.pointer (some ⟨w2.heap.size+1,0,none⟩),.slice (some (J w3.heap.size 0)) n n,.pointer none,.pointer none,.pointer none,.pointer none,.pointer none,.pointer none,.pointer none,.pointer none,.pointer none,.pointer none,.pointer none,.pointer none,.pointer none,.pointer none,.pointer none,.pointer none,I 0,I 0,I 0,.slice none 0 0,.nilFunc,zu 0,.slice none 0 0,.bool false] 111);have Ym:=heap_alloc2_new w3 (.cells (madeCells #[I 0,I 0] (n*2)) 190) (.cells #[I n,zu l,.pointer (some ⟨H.heap.size+1,0,none⟩),.pointer (some ⟨w2.heap.size+1,0,none⟩),.slice (some (J w3.heap.size 0)) n n,.pointer none,.pointer none,.pointer none,.pointer none,.pointer none,.pointer none,.pointer none,.pointer none,.pointer none,.pointer none,.pointer none,.pointer none,.pointer none,.pointer none,.pointer none,.pointer none,I 0,I 0,I 0,.slice none 0 0,.nilFunc,zu 0,.slice none 0 0,.bool false] 111);refine⟨book0 (w3.heap.size+1) (H.heap.size+1) H.heap.size (w2.heap.size+1) w2.heap.size w3.heap.size,rfl,?_,?_⟩
 . refine NQ HN.out (by omega) Ym ?_ ?_ ?_ ?_ Yl
   . exact (SB.block _ (by omega)).trans ((Ve.block _ (by omega)).trans Xi)
   . exact (SB.block _ (by omega)).trans ((Ve.block _ (by omega)).trans Xh)
   . exact (SB.block _ (by omega)).trans Xk
   . exact (SB.block _ (by omega)).trans Xj
 . have hall:=((Yk.trans (b12.mono (by omega))).trans (Ve.mono (by omega))).trans (SB.mono (by omega))
   refine⟨hall.os,hall.tape,hall.output,hall.size,fun b Z _=>hall.block b Z,fun b Z=>?_,fun b Z e=>by cases e⟩;show (if b=w3.heap.size+1 then some bW.bT else _)=none;rw[bu (by omega),bu (by omega),bu (by omega),bu (by omega),bu (by omega),bu (by omega)]
end Go.Proofs.YthicolbbmjfkfaaGreat.Em
