import Derived.Test.YthicolbbmjfkfaaGreatQh7
import Derived.Test.YthicolbbmjfkfaaGreatQh8
set_option linter.unusedVariables false
set_option linter.unusedSimpArgs false
set_option maxRecDepth 100000
set_option maxHeartbeats 1600000
namespace Go.Proofs.YthicolbbmjfkfaaGreat.Em
open En
def rZ (D τ:St):Prop:=τ.sw=D.sw∧τ.cut=D.cut
theorem rZ.trans {D τ υ:St} (h:rZ D τ) (k:rZ τ υ):rZ D υ:=⟨k.1.trans h.1,k.2.trans h.2⟩
theorem jD (D:St) (i o v:Nat):rZ D (D.bP i o v):=by unfold St.bP;split<;>exact⟨rfl,rfl⟩
theorem sV (D:St) (w:Nat):rZ D (D.bT w):=jD _ _ _ _
theorem DF (D:St) (s tq:Nat):rZ D (D.bind s tq):=by unfold St.bind;split<;>exact⟨rfl,rfl⟩
theorem JD (D:St):rZ D D.list:=by unfold St.list;split<;>exact⟨rfl,rfl⟩
theorem JE (D:St):rZ D D.take.1:=by unfold St.take;simp only;split<;>exact JD D
theorem JF (D:St) (l:Nat):rZ D (D.give l):=by
 unfold St.give
 split
 . simp only
   split<;>exact⟨rfl,rfl⟩
 . exact⟨rfl,rfl⟩
theorem DI (s n:Nat):∀ (D:St) (E:Nat),rZ D (fA s n D E).1:=by
 induction n with
 |zero=>intro D E;exact⟨rfl,rfl⟩
 |succ n ih=>
  intro D E;unfold fA
  split
  . exact⟨rfl,rfl⟩
  . split
    . rename_i x _
      refine rZ.trans ?_ (ih _ (E+1))
      split<;>exact⟨rfl,rfl⟩
    . exact⟨rfl,rfl⟩
theorem yo (D:St) (s:Nat) (x:Bool) (F head:Nat):rZ D (D.slot s x F head).1:=by
 unfold St.slot
 by_cases h:F=0
 . rw[aV h]
   have:=JE D
   cases e:D.take with
   |mk τ o=>
    rw[e] at this
    cases o<;>exact this
 . rw[aX h];exact⟨rfl,rfl⟩
theorem yu (D:St) (s:Nat) (h:dw) (F:Nat):rZ D (D.thn s h F).1:=by
 unfold St.thn
 split
 . simp only;split<;>exact⟨rfl,rfl⟩
 . simp only
   unfold St.scan;refine rZ.trans ?_ (DI _ _ _ _)
   split<;>exact⟨rfl,rfl⟩
 . simp only
   split
   . exact⟨rfl,rfl⟩
   split
   . exact⟨rfl,rfl⟩
   split<;>exact⟨rfl,rfl⟩
 . split<;>exact⟨rfl,rfl⟩
theorem Ag (D:St) (s:Nat) (h:dw) (F:Nat):rZ D (D.visit s h F).1:=by unfold St.visit;split;exact yu _ _ _ _;exact⟨rfl,rfl⟩
theorem DJ (D:St) (s:Nat) (h:dw) (F mb:Nat):rZ D (D.seen s h F mb).1:=by unfold St.seen;split;exact yu _ _ _ _;exact⟨rfl,rfl⟩
theorem Ah (D:St) (s F head at_:Nat):rZ D (D.gT s F head at_).1:=by unfold St.gT;split;exact yo _ _ _ _ _;exact⟨rfl,rfl⟩
theorem DK (D:St) (F:Nat):rZ D (D.lost F).1:=by unfold St.lost;split;exact JF _ _;exact⟨rfl,rfl⟩
theorem uw (D:St) (s:Nat) (e:Ev):rZ D (D.bW s e):=by unfold St.bW;split<;>exact⟨rfl,rfl⟩
theorem Cn (D:St) (s:Nat) (k:K):rZ D (D.run s k).1:=by
 have r0:rZ D D:=⟨rfl,rfl⟩
 cases k
 case turns l r=>
  cases l with
  |nil=>exact r0
  |cons x l=>simp only[St.run];split;exact r0;exact jD _ _ _ _
 case start h=>exact Ag D.tick s h _
 case older h F=>exact Ag D.tick s h _
 case ended h F mb=>
  simp only[St.run]
  split
  . exact r0
  split
  . exact DJ D.tick s h F mb
  . exact r0
 case eY h F mb id=>
  simp only[St.run]
  split
  . exact DJ D.tick s h F mb
  split
  . exact DF D.tick s id
  . exact r0
 case seen h F mb=>
  simp only[St.run]
  split
  . exact r0
  . split
    . exact (DF D.tick s mb).trans (yu _ _ _ _)
    . exact yu D.tick _ _ _
 case claim F w=>
  simp only[St.run]
  split
  . exact jD _ _ _ _
  split
  . exact jD D _ _ _
  . refine rZ.trans (jD D (af F 1) w (mine (D.t s))) (rZ.trans ?_ (yo _ _ _ _ _))
    exact⟨rfl,rfl⟩
 case fresh F=>exact Ah D.tick s _ _ _
 case next F head at_=>exact Ah D.tick s _ _ _
 case free F head at_=>
  simp only[St.run]
  split
  . exact r0
  split
  . exact DK D.tick _
  . exact r0
 case dB F head at_ id=>
  simp only[St.run]
  split
  . exact r0
  . exact DK D.tick _
 case dC F head=>
  simp only[St.run]
  split
  . exact jD _ _ _ _
  . exact jD _ _ _ _
 case dI F head=>
  simp only[St.run]
  split
  . exact jD _ _ _ _
  . exact jD _ _ _ _
 case turn w now=>
  simp only[St.run]
  split
  . exact jD _ _ _ _
  . exact jD D _ _ _
 case dJ w now=>exact sV _ _
 case dD=>exact sV _ _
 case bO=>exact uw (D.put _ _) s _
 case abort e r=>exact uw (D.put _ _) s _
 case again e=>
  simp only[St.run]
  split<;>exact⟨rfl,rfl⟩
 all_goals (simp only[St.run];(repeat' split)<;>exact⟨rfl,rfl⟩)
theorem Ai (D:St) (s:Nat):rZ D (D.first s).1:=by
 have r0:rZ D D:=⟨rfl,rfl⟩
 unfold St.first;simp only
 split
 . split<;>exact r0
 . exact DI _ _ _ _
 . exact r0
 . exact r0
 . split
   . split
     . exact r0
     split
     . exact r0
     split
     . exact yo _ _ _ _ _
     . exact r0
   . exact r0
end Go.Proofs.YthicolbbmjfkfaaGreat.Em
namespace Go.Proofs.YthicolbbmjfkfaaGreat.Em
open Go.ChangeShapes Go.WideShapes Go.ChangeAt Go.RowKit En
theorem gu (s:Nat) (hs:s<8) (w:World):zk 40 #[I s] w fun e G=>e=.returned (.bool true)∧w=G:=by
 have h1:(0:Int)<=(s:Int):=by omega
 have h2:(s:Int)<8:=by omega
 have h3:decide ((0:Int)<=(s:Int))=true:=by simp
 have h4:decide ((s:Int)<8)=true:=by simp;omega
 have h5:(s<8)=True:=by simpa using hs
 go_enter Tryz.func40,Tryz.ntmps40;go_wp2;go_ret;exact⟨rfl,rfl⟩
structure Live (A:au) (D:St) (w:World):Prop where
 rep:aD A D w
 mp:A.mp=0
 mt:∀ s,A.mt s=0
 call:∀ s,s<8->∀ c,D.calls.getD s none=some c->A.bG s=ptr (A.bc s)∧∃ k,c.k=some k∧lL (kp A D s) A.L w (A.aW s) k
 idle:∀ s,s<8->D.calls.getD s none=none->A.bG s=.pointer none
 sx:tT A D w
structure wS (A A':au) (s:Nat):Prop where
 bf:A'.Du=A.Du
 mp:A'.mp=A.mp
 mt:A'.mt=A.mt
 bt:∀ q,q≠s->A'.bt q=A.bt q
 bc:∀ q,q≠s->A'.bc q=A.bc q
 bx:∀ q,q≠s->A'.bx q=A.bx q
 aR:∀ q,q≠s->A'.aR q=A.aR q
 aW:∀ q,q≠s->A'.aW q=A.aW q
 bG:∀ q,q≠s->A'.bG q=A.bG q
theorem wS.Y {A A':au} {s:Nat} (h:wS A A' s):A'.Y=A.Y:=xZ h.bf
theorem Live.of {A A':au} {D bE:St} {w G:World} {s:Nat} (hL:Live A D w) (hsw:bE.sw=D.sw∧bE.cut=D.cut) (r:aD A' bE G) (g:Grow A.L w A'.L G) (st:wS A A' s) (hq:∀ q,q≠s->bE.calls.getD q none=D.calls.getD q none)
 (h1:∀ c,bE.calls.getD s none=some c->A'.bG s=ptr (A'.bc s)∧∃ k,c.k=some k∧lL (kp A' bE s) A'.L G (A'.aW s) k) (h2:bE.calls.getD s none=none->A'.bG s=.pointer none):Live A' bE G:=by
 refine⟨r,st.mp.trans hL.mp,fun q=>by rw[st.mt];exact hL.mt q,fun q hq8 c hc=>?_,fun q hq8 hc=>?_,hL.sx.keep st.bf hsw g⟩
 . by_cases h:q=s
   . subst h;exact h1 c hc
   . have hc0:=(hq q h).symm.trans hc
     obtain⟨e1,k,e2,e3⟩:=hL.call q hq8 c hc0;have ek:kp A' bE q=kp A D q:=by
      unfold kp;rw[st.Y,st.bt q h,st.bc q h,st.bx q h,st.aR q h,aU hc,aU hc0]
     refine⟨by rw[st.bG q h,st.bc q h];exact e1,k,e2,?_⟩;rw[ek,st.aW q h];exact e3.grow g
 . by_cases h:q=s
   . subst h;exact h2 hc
   . rw[st.bG q h]
     exact hL.idle q hq8 ((hq q h).symm.trans hc)
theorem lL.enter {p:KP} {L:cZ} {w:World} {v:Value} {k:K} (h:lL p L w v k):∃ f b c,v=.func (.func f) b c∧∀ args w,(callFunc f args).run Tryz.prog w=.ok (.enter f args) w:=by
 cases k<;>first
  |(obtain⟨b0,e,_⟩:=h;exact⟨_,_,_,e,fun args w=>by kernel_rfl⟩)
  |(obtain⟨b0,b1,e,_⟩:=h;exact⟨_,_,_,e,fun args w=>by kernel_rfl⟩)
  |(obtain⟨b0,b1,b2,e,_⟩:=h;exact⟨_,_,_,e,fun args w=>by kernel_rfl⟩)
  |(obtain⟨b0,b1,b2,b3,e,_⟩:=h;exact⟨_,_,_,e,fun args w=>by kernel_rfl⟩)
  |(obtain⟨b0,b1,b2,b3,b4,e,_⟩:=h;exact⟨_,_,_,e,fun args w=>by kernel_rfl⟩)
  |(obtain⟨b0,b1,b2,b3,b4,b5,e,_⟩:=h;exact⟨_,_,_,e,fun args w=>by kernel_rfl⟩)
  | (rename_i l r; cases l
     . obtain⟨b0,b1,b2,b3,e,_⟩:=h;exact⟨_,_,_,e,fun args w=>by kernel_rfl⟩
     . obtain⟨b0,b1,b2,b3,b4,e,_⟩:=h;exact⟨_,_,_,e,fun args w=>by kernel_rfl⟩)
def Stepped (A:au) (w:World) (bE:St) (kind:Int) (r:ic):Ending->World->Prop:=fun e G=>∃ A' vp,e=.returned (.tuple #[.agg #[I kind,I r.e,I r.value,vp,I r.over,I r.ay],I 0])∧dQ A'.L G 2 vp (bI r.aB)∧Live A' bE G∧Grow A.L w A'.L G∧A'.Y=A.Y
def yw (aH:St) (s:Nat) (k:K):Prop:=∀ A H f b c,aD A aH H->A.mp=0->A.mt s=0->lL (kp A aH s) A.L H (.func (.func f) b c) k->zk f (b++c) H (jO A H s (aH.run s k))
theorem JG {A:au} {D:St} {w:World} (hL:Live A D w) (s:Nat) (hs:s<8) (t:bB) (ht:D.ag.getD s none=some t) (c:dF) (hc:D.calls.getD s none=some c) (k:K) (V:c.k=some k) (aQ:D.count<3000000000000000000) (az:St) (ok:Option K) (aN:(D.aF s {c with waits:=false}).run s k=(az,ok)) (HS:yw (D.aF s {c with waits:=false}) s k) (c2:dF) (hc2:az.calls.getD s none=some c2) (dl:Nat) (hdl:az.count=D.count+dl) (hd1:dl<1000000) (hlk:az.aL<1000000000000000000) (hcq:∀ q,q≠s->az.calls.getD q none=D.calls.getD q none) (k':K) (hok:ok=some k') (hov:c2.over=false):
 zk 34 #[R A.Y 0,I s] w (Stepped A w ({az.aF s {c2 with k:=ok} with aL:=az.aL+dl}) (if c2.waits then 2 else 1) {}):=by
 have IK:Hid (az.sw=D.sw∧az.cut=D.cut):=U (by have h:=Cn (D.aF s {c with waits:=false}) s k;rw[aN] at h;exact h);obtain⟨Q,hQ⟩:∃ Q,Q=Stepped A w ({az.aF s {c2 with k:=ok} with aL:=az.aL+dl}) (if c2.waits then 2 else 1) {}:=⟨_,rfl⟩
 rw[<-hQ];have HQ:=U hQ;clear hQ;obtain⟨r0,g0,fl,fh⟩:=hL.rep.lg (.cells #[I 0,I 0,I 0,.slice none 0 0,I 0,I 0] 81);obtain⟨Gv,k0,hk0,hkr⟩:=hL.call s hs c hc;obtain rfl:k=k0:=by rw[V] at hk0;exact zj hk0
 obtain⟨fv,fb,fc,Gw,hent⟩:=hkr.enter;have ll:=U (gu s hs);have b1:(s:Int)<8:=by omega
 have b0:(0:Int)<=(s:Int):=by omega
 have v0:(w.alloc (.cells #[I 0,I 0,I 0,.slice none 0 0,I 0,I 0] 81)).cell? (J A.Y (13+s))=zs (A.bc s) 0:=by rw[<-show A.bG s=R (A.bc s) 0 from Gv];exact r0.eH (13+s) (eF (A.tmp w.heap.size) D hs)
 have v1:(w.alloc (.cells #[I 0,I 0,I 0,.slice none 0 0,I 0,I 0] 81)).cell? (J A.Y (5+s))=zs (A.bt s) 0:=by
  have h:=r0.eH (5+s) (dV (A.tmp w.heap.size) D hs);have e:(A.tmp w.heap.size).tp D s=R (A.bt s) 0:=by unfold au.tp;rw[ht];rfl
  rw[e] at h;exact h
 obtain⟨aH,kH⟩:∃ aH,aH=D.aF s {c with waits:=false}:=⟨_,rfl⟩
 rw[<-kH] at aN HS;have hc1:aH.calls.getD s none=some {c with waits:=false}:=by rw[kH,bS (bH hc),aV rfl]
 have hkp:kp A aH s=kp A D s:=by unfold kp;rw[aU hc1,aU hc]
 have H5:Hid (∀ n w5,(w.alloc (.cells #[I 0,I 0,I 0,.slice none 0 0,I 0,I 0] 81)).drewN n=w5->zB w5 (A.bc s) 10 c.waits∧w5.frozen? (J (A.bc s) 10)=false∧∀ w6,w5.setCell (J (A.bc s) 10) (.bool false)=w6->zS w6 A.Y 2 A.ba 0∧w6.cell? (J (A.bc s) 4)=some (.func (.func fv) fb fc)∧zk 71 #[R A.ba 0] w6 (fun e G=>e=.returned (I (D.count:Int))∧w6=G)∧zk fv (fb++fc) w6 (jO (A.tmp w.heap.size) w6 s (az,ok))∧Grow A.L w (A.tmp w.heap.size).L w6∧((A.tmp w.heap.size).L w.heap.size=some .tmp∧w6.heap[w.heap.size]? =some (.cells #[I 0,I 0,I 0,.slice none 0 0,I 0,I 0] 81))):=by
  rintro n w5 rfl;have r5:=r0.drewN n;refine⟨r5.call hc 10 rfl,r5.nT hc 10,?_⟩;rintro w6 rfl;obtain⟨r6,g6⟩:=r5.qg hc {c with waits:=false} 10 (.bool false) rfl rfl;have vQ:=(Grow.drewN (A.tmp w.heap.size).L (w.alloc (.cells #[I 0,I 0,I 0,.slice none 0 0,I 0,I 0] 81)) n).trans g6;have gg:=g0.trans vQ;rw[<-kH] at r6;have h4:_=some (A.aW s):=r6.call hc1 4 rfl;rw[Gw] at h4;have h4':(((w.alloc (.cells #[I 0,I 0,I 0,.slice none 0 0,I 0,I 0] 81)).drewN n).setCell (J (A.bc s) 10) (.bool false)).cell? (J (A.bc s) 4)=some (.func (.func fv) fb fc):=h4;have Lb:=(hkr.grow gg)
  rw[Gw,<-hkp] at Lb;have hS:=HS (A.tmp w.heap.size) _ fv fb fc r6 hL.mp (hL.mt s) Lb;rw[aN] at hS;have hcn:=kT r6 (by rw[kH];exact Nat.lt_trans aQ (by decide));have hcc:aH.count=D.count:=by rw[kH];rfl
  rw[hcc] at hcn;exact⟨r6.eH 2 rfl,h4',hcn,hS,gg,bX ⟨fl,fh⟩ vQ⟩
 have sW:=U hL;have HF:=U (zA hc2 (zA hdl (zA hcq (zA hs hlk))));have n1:IntKind.i64.wrap (((D.count+dl:Nat):Int) - (D.count:Int))=(dl:Int):=by rw[jH];omega
 have n2:IntKind.i64.wrap ((az.aL:Int)+(dl:Int))=((az.aL+dl:Nat):Int):=by rw[jH];omega
 have H7 : Hid (∀ A2 w2 v A3, A3 = { A2 with aW := jI A2.aW s v } -> aD A2 az w2 -> bL (A.tmp w.heap.size) A2 s -> w2.cell? (J (A.bc s) 4) = some (A2.aW s) ∧ w2.frozen? (J (A.bc s) 4) = false ∧ ∀ w3, w2.setCell (J (A.bc s) 4) v = w3 -> zT w3 A.Y 23 (az.aL : Int) ∧ w3.frozen? (J A.Y 23) = false ∧ zS w3 A.Y 2 A.ba 0 ∧ zk 71 #[R A.ba 0] w3.drew (fun e G => e = .returned (I ((D.count + dl : Nat) : Int)) ∧ G = w3.drew) ∧
     ∀ w4,w3.drew.setCell (J A.Y 23) (I ((az.aL+dl:Nat):Int))=w4->aD A3 ({az.aF s {c2 with k:=ok} with aL:=az.aL+dl}) w4∧Grow A2.L w2 A2.L w4∧zB w4 (A.bc s) 10 c2.waits∧zB w4 (A.bc s) 11 c2.over):=by
  intro A2 w2 v A3 hA3 q st;have uy:A2.bc=A.bc:=st.bc;have Lc:A2.Y=A.Y:=st.Y;have OC:A2.ba=A.ba:=st.ba;have x4:=q.call hc2 4 (v:=A2.aW s) rfl;have z4:=q.nT hc2 4;rw[uy] at x4 z4;refine⟨x4,z4,?_⟩;rintro w3 rfl;obtain⟨r3,g3⟩:=q.qm hc2 v ok;rw[<-hA3,uy] at r3;rw[uy] at g3;have e3:A3.Y=A.Y:=by rw[hA3];exact Lc
  have OD:A3.ba=A.ba:=by rw[hA3];exact OC
  have OE:A3.bc=A.bc:=by rw[hA3];exact uy
  have OG:A3.L=A2.L:=by rw[hA3]
  have y23:=r3.eH 23 (v:=I (az.aL:Int)) rfl;have z23:=r3.pK 23;have y2:=r3.eH 2 (v:=R A3.ba 0) rfl;have hcn:=flip (kT r3.drew (by show az.count<_;omega));rw[e3] at y23 z23 y2;rw[OD] at hcn y2;rw[show (az.aF s {c2 with k:=ok}).count=D.count+dl from hdl] at hcn;refine⟨y23,z23,y2,hcn,?_⟩;intro w4 hw4;obtain⟨r4,g4⟩:=r3.drew.tJ (az.aL+dl);rw[e3,hw4] at r4 g4;rw[OG] at g4;have hc4:({az.aF s {c2 with k:=ok} with aL:=az.aL+dl}:St).calls.getD s none=some {c2 with k:=ok}:=by show (az.aF s {c2 with k:=ok}).calls.getD s none=_;rw[bS (bH hc2),aV rfl]
  have Co:=r4.call hc4 10 (v:=.bool c2.waits) rfl;have DL:=r4.call hc4 11 (v:=.bool c2.over) rfl;rw[OE] at Co DL;exact⟨r4,(g3.trans (Grow.drew _ _)).trans g4,Co,DL⟩
 have hwx:(w.alloc (.cells #[I 0,I 0,I 0,.slice none 0 0,I 0,I 0] 81)).cell? (J (A.bc s) 10)=zb c.waits:=r0.call hc 10 rfl;have Qr:=U Gv;clear hL ht hc V aQ aN HS hc2 hdl hd1 hlk hcq r0 g0 fl fh Gv hk0 hkr Gw kH hc1 hkp hs;generalize (D.count:Int)=ca at*;generalize ((D.count+dl:Nat):Int)=cb at*;generalize ((az.aL+dl:Nat):Int)=lb at*;go_enter Tryz.func34,Tryz.ntmps34;go_wp2_with (go_at_call 40;refine (ll.out _).mono ?_;rintro e G ⟨rfl,rfl⟩);generalize hw0:w.alloc _=w0 at*
 go_quiet (fail)
 generalize iG:w0.drewN _=w5;obtain⟨NF,FH,h6⟩:=H5.out _ w5 iG;obtain⟨y2,y4,hcn,hS,gg,fD⟩:=h6 _ rfl;have HC:=U hcn;have HX:=U (zA hS (zA gg fD));clear hcn hS gg fD h6 iG hw0 H5 v0 v1 hwx;go_wp2_with (go_at_call 71;refine HC.out.mono ?_;rintro e G ⟨rfl,rfl⟩);refine HX.out.1.mono ?_;rintro e w2 ⟨A2,v,rfl,q1,q2,q3,q4⟩;subst hok;obtain⟨f2,u2,u3,rfl,SY⟩:=lL.enter q4;obtain⟨x4,z4,h3⟩:=H7.out A2 w2 (.func (.func f2) u2 u3) _ rfl q1 q3;obtain⟨y23,z23,y2',hcn,h4⟩:=h3 _ rfl;have OH:=U hcn;have DN:=U (zA q1 (zA q2 (zA q3 (zA q4 h4))));clear hcn h3 h4 q1 q2 q3 q4 H7 NF FH y2 y4;go_wp2_with fail;generalize hw3:w2.setCell (J (A.bc s) 4) (.func (.func f2) u2 u3)=w3 at*;refine wp_region_still_tail 14 (by kernel_rfl) (by kernel_rfl) ?_;simp only[jk,jl,jm,jo]
 repeat still_step
 still_call OH.out
 repeat still_step
 refine wpStill_nil ?_;change wpList _ _ _ _ _ w3.drew;have OJ:w3.drew.cell? (J A.Y 23)=zt (az.aL:Int):=y23;have OL:w3.drew.frozen? (J A.Y 23)=false:=z23;generalize w3.drew=wd at*;obtain⟨r4,g4,Co,DL⟩:=DN.out.2.2.2.2 _ rfl;have fD:=bX (bX HX.out.2.2 DN.out.2.1) g4;have vR:=U (ik fD.2);have HY:=U (zA r4 (zA g4 fD));have VA:=U hov;rw[hov] at DL;clear r4 g4 fD hov
 cases hwt:c2.waits
 . rw[hwt] at Co
   have QS:=U hwt;clear hwt;go_wp2_with (refine wpList_store_mid rfl 81 (.tmp 4) (.tmp 77) rfl w.heap.size 0 #[I 1,I 0,I 0,.slice none 0 0,I 0,I 0] rfl rfl vR.out (by kernel_rfl) (by simp[Value.oneCell']) ?_;generalize hws:World.setCells _ _ _ _=ws);have dW:=But.setCells w.heap.size [I 1,I 0,I 0,.slice none 0 0,I 0,I 0] 0 (wd.setCell (J A.Y 23) (I lb));have hfin:=jC HY.out.2.2.2 (I 1) (I 0) (I 0) (.slice none 0 0) (I 0) (I 0);rw[show (wd.setCell (J A.Y 23) (I lb)).setCells w.heap.size 0 [I 1,I 0,I 0,.slice none 0 0,I 0,I 0]=ws from hws] at dW hfin
   (try simp only[Exit.inBlock,Exit.then])
   refine bodyPost_ret (dP rfl _ _ w.heap.size 81 #[I 1,I 0,I 0,.slice none 0 0,I 0,I 0] _ _ rfl hfin Tryz.underlying81 rfl (by kernel_rfl)) rfl ?_;have hkd:(if c2.waits then (2:Int) else 1)=1:=by rw[QS.out];rfl
   rw[HQ.out,hkd];obtain⟨hc2,hdl,hcq,hs,_⟩:=HF.out;obtain⟨q1,q2,q3,q4,_⟩:=DN.out;obtain⟨r4,g4,fD⟩:=HY.out;have r5:=r4.but fD.1 dW;have gg:=(((HX.out.2.1.trans q2).trans g4).but (zr _) dW)
   have hc':({az.aF s {c2 with k:=some k'} with aL:=az.aL+dl}:St).calls.getD s none=some {c2 with k:=some k'}:=by show (az.aF s {c2 with k:=some k'}).calls.getD s none=_;rw[bS (bH hc2),aV rfl]
   refine⟨{A2 with aW:=jI A2.aW s (.func (.func f2) u2 u3)},.slice none 0 0,rfl,dQ.nil _ _ _,Live.of (s:=s) sW.out IK.out r5 gg ⟨q3.bf,q3.mp,q3.mt,fun q _=>by rw[show ({A2 with aW:=_}:au).bt=A.bt from q3.bt],fun q _=>by rw[show ({A2 with aW:=_}:au).bc=A.bc from q3.bc],q3.bx,q3.aR,fun q hq=>(bz _ _ hq).trans (congrFun q3.aW q),fun q _=>congrFun q3.bG q⟩ (fun q hq=>?_) (fun c' hcc=>?_) (fun hnn=>by have h0:=hc'.symm.trans hnn;cases h0),gg,q3.Y⟩
   . show (az.aF s _).calls.getD q none=_
     rw[bS (bH hc2),aX hq];exact hcq q hq
   . obtain rfl:{c2 with k:=some k'}=c':=zj (hc'.symm.trans hcc)
     refine⟨?_,k',rfl,?_⟩
     . show A2.bG s=ptr (A2.bc s)
       rw[q3.bG,q3.bc];exact Qr.out
     . have ek:kp {A2 with aW:=jI A2.aW s (.func (.func f2) u2 u3)} ({az.aF s {c2 with k:=some k'} with aL:=az.aL+dl}:St) s=kp A2 az s:=by unfold kp;rw[aU hc',aU hc2]
       rw[ek,show ({A2 with aW:=jI A2.aW s (.func (.func f2) u2 u3)}:au).aW s=.func (.func f2) u2 u3 from kg _ _ _];exact (q4.grow g4).soft (dW.soft fD.1)
 . rw[hwt] at Co
   have QS:=U hwt;clear hwt;go_wp2_with (refine wpList_store_mid rfl 81 (.tmp 4) (.tmp 70) rfl w.heap.size 0 #[I 2,I 0,I 0,.slice none 0 0,I 0,I 0] rfl rfl vR.out (by kernel_rfl) (by simp[Value.oneCell']) ?_;generalize hws:World.setCells _ _ _ _=ws);have dW:=But.setCells w.heap.size [I 2,I 0,I 0,.slice none 0 0,I 0,I 0] 0 (wd.setCell (J A.Y 23) (I lb));have hfin:=jC HY.out.2.2.2 (I 2) (I 0) (I 0) (.slice none 0 0) (I 0) (I 0);rw[show (wd.setCell (J A.Y 23) (I lb)).setCells w.heap.size 0 [I 2,I 0,I 0,.slice none 0 0,I 0,I 0]=ws from hws] at dW hfin
   (try simp only[Exit.inBlock,Exit.then])
   refine bodyPost_ret (dP rfl _ _ w.heap.size 81 #[I 2,I 0,I 0,.slice none 0 0,I 0,I 0] _ _ rfl hfin Tryz.underlying81 rfl (by kernel_rfl)) rfl ?_;have hkd:(if c2.waits then (2:Int) else 1)=2:=by rw[QS.out];rfl
   rw[HQ.out,hkd];obtain⟨hc2,hdl,hcq,hs,_⟩:=HF.out;obtain⟨q1,q2,q3,q4,_⟩:=DN.out;obtain⟨r4,g4,fD⟩:=HY.out;have r5:=r4.but fD.1 dW;have gg:=(((HX.out.2.1.trans q2).trans g4).but (zr _) dW)
   have hc':({az.aF s {c2 with k:=some k'} with aL:=az.aL+dl}:St).calls.getD s none=some {c2 with k:=some k'}:=by show (az.aF s {c2 with k:=some k'}).calls.getD s none=_;rw[bS (bH hc2),aV rfl]
   refine⟨{A2 with aW:=jI A2.aW s (.func (.func f2) u2 u3)},.slice none 0 0,rfl,dQ.nil _ _ _,Live.of (s:=s) sW.out IK.out r5 gg ⟨q3.bf,q3.mp,q3.mt,fun q _=>by rw[show ({A2 with aW:=_}:au).bt=A.bt from q3.bt],fun q _=>by rw[show ({A2 with aW:=_}:au).bc=A.bc from q3.bc],q3.bx,q3.aR,fun q hq=>(bz _ _ hq).trans (congrFun q3.aW q),fun q _=>congrFun q3.bG q⟩ (fun q hq=>?_) (fun c' hcc=>?_) (fun hnn=>by have h0:=hc'.symm.trans hnn;cases h0),gg,q3.Y⟩
   . show (az.aF s _).calls.getD q none=_
     rw[bS (bH hc2),aX hq];exact hcq q hq
   . obtain rfl:{c2 with k:=some k'}=c':=zj (hc'.symm.trans hcc)
     refine⟨?_,k',rfl,?_⟩
     . show A2.bG s=ptr (A2.bc s)
       rw[q3.bG,q3.bc];exact Qr.out
     . have ek:kp {A2 with aW:=jI A2.aW s (.func (.func f2) u2 u3)} ({az.aF s {c2 with k:=some k'} with aL:=az.aL+dl}:St) s=kp A2 az s:=by unfold kp;rw[aU hc',aU hc2]
       rw[ek,show ({A2 with aW:=jI A2.aW s (.func (.func f2) u2 u3)}:au).aW s=.func (.func f2) u2 u3 from kg _ _ _];exact (q4.grow g4).soft (dW.soft fD.1)
theorem uz {A:au} {D:St} {w:World} (hR:aD A D w) (s F:Nat):
 zk 171 #[R A.Y 0,R (A.bt s) 0,R (A.bc s) 0,.pointer (some ⟨(kp A D s).x,0,none⟩),zu F] w (aZ A w s (D,.over F)):=by
 have zo:=U (jY hR #[R A.Y 0] 32 #[R (A.bt s) 0] 100 #[R (A.bc s) 0] 105 #[.pointer (some ⟨(kp A D s).x,0,none⟩)] 223 #[zu F] 25);clear hR;go_enter Tryz.func171,Tryz.ntmps171;go_wp2;go_ret;obtain⟨r1,r2,f0,f1,f2,f3,f4⟩:=zo.out;exact⟨A,_,rfl,r1,r2,bL.refl _ _,_,_,_,_,_,rfl,f0.box,f2.box,f4.box,f1.box,f3.box⟩
variable {A:au} {D:St} {w:World}
theorem yx (hR:aD A D w) (s:Nat) (t:bB) (ht:D.ag.getD s none=some t) (F head:Nat) (aQ:D.count<4000000000000000000) (hv:VL D F) (b0 b1 b2 b3 b4 b5:Nat)
 (B0:aK A.L w b0 (R A.Y 0)) (B1:aK A.L w b1 (zu F)) (B2:aK A.L w b2 (.pointer (some ⟨(kp A D s).x,0,none⟩))) (B3:aK A.L w b3 (R (A.bt s) 0)) (B4:aK A.L w b4 (R (A.bc s) 0)) (B5:iZ A.L w b5 true head):
 zk 169 #[R b0 0,R b1 0,R b2 0,R b3 0,R b4 0,R b5 0] w (jO A w s (D.run s (.dM true F head))):=by
 have hsl:=hR.sl;obtain⟨hv5,X5,R5⟩:=B5;obtain⟨ha,hn,hcap,rfl,hlen,hcap1,hcap2,hrow⟩:=R5;have c0:=B0.cell;have c1:=B1.cell;have e2:=hR.z2;have HS:=U (flip (gF F 1 1 rfl hv.lo (by have:=hv.hi;omega) hv.u (by omega) w.drew));have HF:=U (pF w.drew);have HL:=U (fC hR.drew (af F 1) ever (fI hR hv.lo hv.hi (by omega)) aQ);have HG:=zG A.L w;have HB:Hid (∀ H,aD A (D.put (af F 1) ever) H->Grow A.L w A.L H->zk 171 #[R A.Y 0,R (A.bt s) 0,R (A.bc s) 0,.pointer (some ⟨(kp A D s).x,0,none⟩),zu F] H (aZ A H s (D.put (af F 1) ever,.over F))∧zS H b0 0 A.Y 0∧zV H b1 0 F∧H.cell? (J b2 0)=some (.pointer (some ⟨(kp A D s).x,0,none⟩))∧zS H b3 0 (A.bt s) 0∧zS H b4 0 (A.bc s) 0):=
  fun H q g=>⟨uz q s F,(B0.grow g).cell,(B1.grow g).cell,(B2.grow g).cell,(B3.grow g).cell,(B4.grow g).cell⟩
 have aN:D.run s (.dM true F head)=(D.put (af F 1) ever,some (.over F)):=rfl;rw[aN];clear hR ht aQ hv B0 B1 B2 B3 B4 X5 aN hsl hlen hcap1 hcap2 hrow;go_enter Tryz.func169,Tryz.ntmps169;go_wp2_with fail;refine wp_region_still_tail 7 (by kernel_rfl) (by kernel_rfl) ?_;simp only[jk,jl,jm,jo]
 repeat still_step
 still_call HS.out
 still_call HF.out
 refine wpStill_nil ?_;change wpList _ _ _ _ _ w.drew;generalize w.drew=wd at*;go_wp2_with (first|(go_at_call 47;refine HL.out.mono ?_;rintro e H ⟨rfl,q1,q2⟩;have g1:=HG.out.trans q2;obtain⟨hf,d0,d1,d2,d3,d4⟩:=HB.out H q1 g1;have HQ:=U (zA hf g1);clear q1 q2 g1 hf)|(go_at_call 171;refine HQ.out.1.mono ?_;rintro e w2 ⟨A2,v,rfl,p1,p2,p3,p4⟩));go_ret;exact⟨A2,v,rfl,p1,HQ.out.2.trans p2,p3,p4⟩
theorem vW (hR:aD A D w) (s:Nat) (t:bB) (ht:D.ag.getD s none=some t) (F head:Nat) (aQ:D.count<4000000000000000000) (hv:VL D F) (b0 b1 b2 b3 b4 b5:Nat)
 (B0:aK A.L w b0 (R A.Y 0)) (B1:aK A.L w b1 (zu F)) (B2:aK A.L w b2 (.pointer none)) (B3:aK A.L w b3 (R (A.bt s) 0)) (B4:aK A.L w b4 (R (A.bc s) 0)) (B5:iZ A.L w b5 false head):
 zk 169 #[R b0 0,R b1 0,R b2 0,R b3 0,R b4 0,R b5 0] w (jO A w s (D.run s (.dM false F head))):=by
 have hsl:=hR.sl;obtain⟨hv5,X5,R5⟩:=B5;obtain⟨ha,hn,hcap,rfl,hlen,hcap1,hcap2,hrow⟩:=R5;have c0:=B0.cell;have c1:=B1.cell;have e2:=hR.z2;have HS:=U (flip (gF F 1 1 rfl hv.lo (by have:=hv.hi;omega) hv.u (by omega) w.drew));have HF:=U (pF w.drew);have HL:=U (fC hR.drew (af F 1) ever (fI hR hv.lo hv.hi (by omega)) aQ);have HG:=zG A.L w;have hn1:hn=1:=by simpa using hlen.symm
 subst hn1;obtain⟨hg,hoff,rfl,Qs,JH,hcs⟩:=hrow.resolve_left (by omega);have h0:w.cell? (J hg hoff)=zv head:=hcs 0 (by omega);have HB:Hid (∀ H,aD A (D.put (af F 1) ever) H->Grow A.L w A.L H->zk 170 #[R A.Y 0,R (A.bt s) 0,R (A.bc s) 0,zu F,zu head] H.drew (aZ A H.drew s (D.put (af F 1) ever,.push F head))∧zS H b0 0 A.Y 0∧zV H b1 0 F∧H.cell? (J b2 0)=some (.pointer none)∧zS H b3 0 (A.bt s) 0∧zS H b4 0 (A.bc s) 0∧H.cell? (J b5 0)=some (.slice (some (J hg hoff)) 1 hcap)∧zV H hg hoff head):=
  fun H q g=>⟨F8 q.drew s F head,(B0.grow g).cell,(B1.grow g).cell,(B2.grow g).cell,(B3.grow g).cell,(B4.grow g).cell,(X5.grow g).cell,(World.cell?_of_block (w:=w) (a:=(J hg hoff)) (g.block hg JH Qs)).trans h0⟩
 have aN:D.run s (.dM false F head)=(D.put (af F 1) ever,some (.push F head)):=rfl;rw[aN];clear hR ht aQ hv B0 B1 B2 B3 B4 X5 aN hsl hlen hcap1 hcap2 hrow hcs h0;go_enter Tryz.func169,Tryz.ntmps169;go_wp2_with fail;refine wp_region_still_tail 7 (by kernel_rfl) (by kernel_rfl) ?_;simp only[jk,jl,jm,jo]
 repeat still_step
 still_call HS.out
 still_call HF.out
 refine wpStill_nil ?_;change wpList _ _ _ _ _ w.drew;generalize w.drew=wd at*;go_wp2_with (go_at_call 47;refine HL.out.mono ?_;rintro e H ⟨rfl,q1,q2⟩;have g1:=HG.out.trans q2;obtain⟨hf,d0,d1,d2,d3,d4,d5,d6⟩:=HB.out H q1 g1;have HQ:=U (zA hf (g1.trans (Grow.drew _ _)));clear q1 q2 g1 hf);refine wp_region_still_tail 7 (by kernel_rfl) (by kernel_rfl) ?_;simp only[jk,jl,jm,jo]
 repeat still_step
 refine wpStill_nil ?_;change wpList _ _ _ _ _ H.drew;generalize H.drew=Ov at*;go_wp2_with (go_at_call 170;refine HQ.out.1.mono ?_;rintro e w2 ⟨A2,v,rfl,p1,p2,p3,p4⟩);go_ret;exact⟨A2,v,rfl,p1,HQ.out.2.trans p2,p3,p4⟩
theorem JI (hR:aD A D w) (s:Nat) (t:bB) (ht:D.ag.getD s none=some t) (x:Bool) (F head:Nat) (aQ:D.count<4000000000000000000) (hv:VL D F) (b0 b1 b2 b3 b4 b5:Nat)
 (B0:aK A.L w b0 (R A.Y 0)) (B1:aK A.L w b1 (zu F)) (B2:aK A.L w b2 ((kp A D s).xo x)) (B3:aK A.L w b3 (R (A.bt s) 0)) (B4:aK A.L w b4 (R (A.bc s) 0)) (B5:iZ A.L w b5 x head):
 zk 169 #[R b0 0,R b1 0,R b2 0,R b3 0,R b4 0,R b5 0] w (jO A w s (D.run s (.dM x F head))):=by
 cases x
 . exact vW hR s t ht F head aQ hv b0 b1 b2 b3 b4 b5 B0 B1 B2 B3 B4 B5
 . exact yx hR s t ht F head aQ hv b0 b1 b2 b3 b4 b5 B0 B1 B2 B3 B4 B5
theorem Me (hR:aD A D w) (s:Nat) (c:dF) (hc:D.calls.getD s none=some c) (F:Nat) (V:c.op.E<64) (aQ:D.count<4000000000000000000)
 (b0 b1 b2 b3 b4:Nat) (B0:aK A.L w b0 (R A.Y 0)) (B1:aK A.L w b1 (R (A.bc s) 0)) (B2:aK A.L w b2 (zu F)) (B3:aK A.L w b3 (R (A.bt s) 0)) (B4:aK A.L w b4 (.pointer (some ⟨(kp A D s).x,0,none⟩))):
 zk 192 #[R b0 0,R b1 0,R b2 0,R b3 0,R b4 0] w (jO A w s (D.run s (.over F))):=by
 have c0:=B0.cell;have c1:=B1.cell;have e2:=hR.z2;have k1:w.cell? (J (A.bc s) 1)=zt c.op.E:=hR.call hc 1 rfl;have n1:IntKind.i64.wrap (9+(c.op.E:Int))=9+(c.op.E:Int):=by rw[jH];omega
 have HL:Hid (∀ G,aD A D G->zk 42 #[R A.ba 0,I (9+(c.op.E:Int))] G (FD A G D.tick (zu (D.word (9+c.op.E):Int)))):=fun G r=>oz r (9+c.op.E) (9+(c.op.E:Int)) (by omega) (by rw[r.nw];omega) aQ
 have BM:Hid (aD A D w.drew):=hR.drew;have x0:=World.new_ne w _ c0;have x1:=World.new_ne w _ c1;have x2:=World.new_ne w _ e2;have x3:=World.new_ne w _ k1;have HKK:Hid (∀ G,aD A D.tick G->Grow A.L w A.L G->zS G b0 0 A.Y 0∧zS G b1 0 (A.bc s) 0∧zS G A.Y 2 A.ba 0∧zT G (A.bc s) 1 c.op.E):=fun G r g=>⟨(B0.grow g).cell,(B1.grow g).cell,r.eH 2 rfl,r.call hc 1 rfl⟩
 have Mf:Hid (Fix A.L (w.drew.alloc (.cells #[zu 0] 25)) w.heap.size (.cells #[zu 0] 25)):=dO hR.drew.mem.fresh _ rfl;have hl0:A.L w.heap.size=none:=hR.mem.fresh _ (zr _);have Ut:Hid (∀ G,aD A D.tick G->Grow A.L w A.L G->(G.setCell (J w.heap.size 0) (zu (D.word (9+c.op.E):Int))).cell? (J b0 0)=zs A.Y 0∧(G.setCell (J w.heap.size 0) (zu (D.word (9+c.op.E):Int))).cell? (J b1 0)=zs (A.bc s) 0∧(G.setCell (J w.heap.size 0) (zu (D.word (9+c.op.E):Int))).cell? (J A.Y 2)=zs A.ba 0∧(G.setCell (J w.heap.size 0) (zu (D.word (9+c.op.E):Int))).cell? (J (A.bc s) 1)=zt c.op.E):=fun G r g=>by
  obtain⟨r',g'⟩:=hR.mg r g rfl rfl (a:=(J w.heap.size 0)) (zr _) hl0 (zu (D.word (9+c.op.E):Int));exact HKK.out _ r' g'
 have aN:D.run s (.over F)=(D.tick,some (.fU F (D.word (9+c.op.E)))):=by simp only[St.run,aU hc]
 rw[aN];have HG:=zG A.L w;have HB:=U (zA B0 (zA B1 (zA B2 (zA B3 B4))));have EH:Hid (∀ G,aD A D.tick G->Grow A.L w A.L G->aD A D.tick (G.setCell (J w.heap.size 0) (zu (D.word (9+c.op.E):Int)))∧Grow A.L w A.L (G.setCell (J w.heap.size 0) (zu (D.word (9+c.op.E):Int)))):=fun G r g=>hR.mg r g rfl rfl (a:=(J w.heap.size 0)) (zr _) hl0 (zu (D.word (9+c.op.E):Int))
 clear hl0;clear hR hc aQ B0 B1 B2 B3 B4 aN V;generalize D.word (9+c.op.E)=hd at*;generalize c.op.E=E at*;go_enter Tryz.func192,Tryz.ntmps192;go_wp2_with fail
 go_region_held3 (fun G=>zS G b0 0 A.Y 0∧zS G b1 0 (A.bc s) 0∧zS G A.Y 2 A.ba 0∧zT G (A.bc s) 1 E)
  (first|exact⟨c0,c1,e2,k1⟩|assumption|go_keep|exact HKK.out _ (by assumption) (by assumption)|exact HKK.out _ (aD.alloc (by assumption) _) (Grow.trans (by assumption) (Grow.alloc _ _ _))|exact Ut.out _ (by assumption) (by assumption))
  (first|(go_at_call 42;refine (HL.out _ BM.out).mono ?_;rintro e H ⟨rfl,q1,q2⟩;have q4:=HG.out.trans q2)|(go_at_call 42;refine (HL.out _ (BM.out.alloc _)).mono ?_;rintro e H ⟨rfl,q1,q2⟩;have q4:=(HG.out.trans (Grow.alloc _ _ _)).trans q2;have fx:=Mf.out.grow q2;have nb:=fx.cell 0 (v:=zu 0) rfl;have nz:=fx.frozen 0;have FX:=U fx;clear fx))
 . go_wp2_with fail
   go_ret;obtain⟨r3,g3,f0⟩:=cB q1 #[zu hd] 25;have g:=q4.trans g3;obtain⟨B0,B1,B2,B3,B4⟩:=HB.out;exact⟨A,_,rfl,r3,g,bL.refl _ _,_,_,_,_,_,_,rfl,B0.grow g,B2.grow g,f0.box,B1.grow g,B3.grow g,B4.grow g⟩
 . go_wp2_with fail
   go_ret;obtain⟨r3,g⟩:=EH.out _ q1 q4;obtain⟨B0,B1,B2,B3,B4⟩:=HB.out;exact⟨A,_,rfl,r3,g,bL.refl _ _,_,_,_,_,_,_,rfl,B0.grow g,B2.grow g,(FX.out.sU _).box,B1.grow g,B3.grow g,B4.grow g⟩
end Go.Proofs.YthicolbbmjfkfaaGreat.Em
