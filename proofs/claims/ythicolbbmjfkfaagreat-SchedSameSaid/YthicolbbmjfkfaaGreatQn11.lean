import Derived.Test.YthicolbbmjfkfaaGreatQn5
import Derived.Laws.ResultCell
import Derived.Laws.Rows
import Derived.Deep.Cut
import Derived.Laws.MakeOwn
import Derived.ChangeOld
import Derived.Deep.Slices
import Derived.Test.YthicolbbmjfkfaaGreatQn10
import Derived.LoopTactic
set_option linter.unusedVariables false
set_option linter.unusedSimpArgs false
set_option maxRecDepth 100000
set_option maxHeartbeats 1600000
namespace Go.Proofs.YthicolbbmjfkfaaGreat.Em
open Go.ChangeShapes Go.WideShapes Go.ChangeAt Go.RowKit En
theorem eD {P:Program} {fn:Func} {p u:Tmp} {ty:TypeId} (h:fn.results=#[.cell p ty,.tmp u]) (tmps:Array Value) (w:World) (g:Nat) (t:TypeId) (cs:Array Value) (fr:Nat×Nat) (d:TypeDesc)
 (hp:tmps.getD p undef=R g 0) (hg:w.heap[g]? =some (.cells cs t fr))
 (hu:P.underlying ty=some d) (hd:(match d with|.struct _|.array _ _=>true|_=>false)=true) (hi:(P.info? ty).map (·.size)=some cs.size):
 (results fn tmps).run P w=.ok (.tuple #[.agg cs,tmps.getD u undef]) w:=by
 rw[results_cell_tmp h,hp];simp[asAddr,run_loadVar_row w g t ty cs fr d hg hu hd hi,Result.andThen]
theorem FJ (w:World) (re rv ro rr:Int) (a:Option Addr) (cap:Nat):
 zk 53 #[.agg #[I re,I rv,.slice a 0 cap,I ro,I rr]] w fun e E=>e=.returned (.agg #[I re,I rv,.slice none 0 0,I ro,I rr])∧Below w.heap.size w E:=by
 have hb:Below w.heap.size w (((w.alloc (.cells #[I re,I rv,.slice none 0 0,I ro,I rr] 46))).alloc (.cells #[I re,I rv,.slice none 0 0,I ro,I rr] 46)):=(((Below.refl _ _).alloc (zr _) _)).alloc (by simp) _;have HB:=zH hb;clear hb
 cases a with
 |none=>
  go_enter Tryz.func53,Tryz.ntmps53;go_wp2
  (try simp only[Exit.inBlock,Exit.then])
  refine bodyPost_ret (results_cell_row rfl _ _ (w.heap.size+1) 46 #[I re,I rv,.slice none 0 0,I ro,I rr] _ _ rfl (heap_alloc2_new w _ _) Tryz.underlying46 rfl (by kernel_rfl)) rfl ?_;exact⟨rfl,HB.out⟩
 |some x=>
  go_enter Tryz.func53,Tryz.ntmps53;go_wp2
  (try simp only[Exit.inBlock,Exit.then])
  refine bodyPost_ret (results_cell_row rfl _ _ (w.heap.size+1) 46 #[I re,I rv,.slice none 0 0,I ro,I rr] _ _ rfl (heap_alloc2_new w _ _) Tryz.underlying46 rfl (by kernel_rfl)) rfl ?_;exact⟨rfl,HB.out⟩
end Go.Proofs.YthicolbbmjfkfaaGreat.Em
namespace Go.Proofs.YthicolbbmjfkfaaGreat.Em
open En
def vK (D τ:St):Prop:=τ.sw=D.sw∧τ.cut=D.cut
theorem vK.trans {D τ υ:St} (h:vK D τ) (k:vK τ υ):vK D υ:=⟨k.1.trans h.1,k.2.trans h.2⟩
theorem kL (D:St) (i o v:Nat):vK D (D.cB i o v):=by unfold St.cB;split<;>exact⟨rfl,rfl⟩
theorem wH (D:St) (w:Nat):vK D (D.dx w):=kL _ _ _ _
theorem Ii (D:St) (s tq:Nat):vK D (D.bind s tq):=by unfold St.bind;split<;>exact⟨rfl,rfl⟩
theorem OJ (D:St):vK D D.list:=by unfold St.list;split<;>exact⟨rfl,rfl⟩
theorem OL (D:St):vK D D.take.1:=by unfold St.take;simp only;split<;>exact OJ D
theorem OM (D:St) (l:Nat):vK D (D.give l):=by
 unfold St.give
 split
 . simp only
   split<;>exact⟨rfl,rfl⟩
 . exact⟨rfl,rfl⟩
theorem Ij (s n:Nat):∀ (D:St) (F:Nat),vK D (iE s n D F).1:=by
 induction n with
 |zero=>intro D F;exact⟨rfl,rfl⟩
 |succ n ih=>
  intro D F;unfold iE
  split
  . exact⟨rfl,rfl⟩
  . split
    . rename_i x _
      refine vK.trans ?_ (ih _ (F+1))
      split<;>exact⟨rfl,rfl⟩
    . exact⟨rfl,rfl⟩
theorem Bu (D:St) (s:Nat) (x:Bool) (G head:Nat):vK D (D.slot s x G head).1:=by
 unfold St.slot
 by_cases h:G=0
 . rw[aV h]
   have:=OL D
   cases e:D.take with
   |mk τ o=>
    rw[e] at this
    cases o<;>exact this
 . rw[aR h];exact⟨rfl,rfl⟩
theorem Bv (D:St) (s:Nat) (h:dJ) (G:Nat):vK D (D.thn s h G).1:=by
 unfold St.thn
 split
 . simp only;split<;>exact⟨rfl,rfl⟩
 . simp only
   unfold St.scan;refine vK.trans ?_ (Ij _ _ _ _)
   split<;>exact⟨rfl,rfl⟩
 . simp only
   split
   . exact⟨rfl,rfl⟩
   split
   . exact⟨rfl,rfl⟩
   split<;>exact⟨rfl,rfl⟩
 . split<;>exact⟨rfl,rfl⟩
theorem Dz (D:St) (s:Nat) (h:dJ) (G:Nat):vK D (D.visit s h G).1:=by unfold St.visit;split;exact Bv _ _ _ _;exact⟨rfl,rfl⟩
theorem Ik (D:St) (s:Nat) (h:dJ) (G mb:Nat):vK D (D.seen s h G mb).1:=by unfold St.seen;split;exact Bv _ _ _ _;exact⟨rfl,rfl⟩
theorem DC (D:St) (s G head at_:Nat):vK D (D.jd s G head at_).1:=by unfold St.jd;split;exact Bu _ _ _ _ _;exact⟨rfl,rfl⟩
theorem Il (D:St) (G:Nat):vK D (D.lost G).1:=by unfold St.lost;split;exact OM _ _;exact⟨rfl,rfl⟩
theorem xq (D:St) (s:Nat) (e:Ev):vK D (D.dH s e):=by unfold St.dH;split<;>exact⟨rfl,rfl⟩
theorem FK (D:St) (s:Nat) (k:K):vK D (D.run s k).1:=by
 have r0:vK D D:=⟨rfl,rfl⟩
 cases k
 case turns l r=>
  cases l with
  |nil=>exact r0
  |cons x l=>simp only[St.run];split;exact r0;exact kL _ _ _ _
 case start h=>exact Dz D.tick s h _
 case older h G=>exact Dz D.tick s h _
 case ended h G mb=>
  simp only[St.run]
  split
  . exact r0
  split
  . exact Ik D.tick s h G mb
  . exact r0
 case gW h G mb id=>
  simp only[St.run]
  split
  . exact Ik D.tick s h G mb
  split
  . exact Ii D.tick s id
  . exact r0
 case seen h G mb=>
  simp only[St.run]
  split
  . exact r0
  . split
    . exact (Ii D.tick s mb).trans (Bv _ _ _ _)
    . exact Bv D.tick _ _ _
 case claim G w=>
  simp only[St.run]
  split
  . exact kL _ _ _ _
  split
  . exact kL D _ _ _
  . refine vK.trans (kL D (af G 1) w (mine (D.t s))) (vK.trans ?_ (Bu _ _ _ _ _))
    exact⟨rfl,rfl⟩
 case fresh G=>exact DC D.tick s _ _ _
 case next G head at_=>exact DC D.tick s _ _ _
 case free G head at_=>
  simp only[St.run]
  split
  . exact r0
  split
  . exact Il D.tick _
  . exact r0
 case dM G head at_ id=>
  simp only[St.run]
  split
  . exact r0
  . exact Il D.tick _
 case dL G head=>
  simp only[St.run]
  split
  . exact kL _ _ _ _
  . exact kL _ _ _ _
 case dQ G head=>
  simp only[St.run]
  split
  . exact kL _ _ _ _
  . exact kL _ _ _ _
 case turn w now=>
  simp only[St.run]
  split
  . exact kL _ _ _ _
  . exact kL D _ _ _
 case ed w now=>exact wH _ _
 case dR=>exact wH _ _
 case cZ=>exact xq (D.put _ _) s _
 case abort e r=>exact xq (D.put _ _) s _
 case again e=>
  simp only[St.run]
  split<;>exact⟨rfl,rfl⟩
 all_goals (simp only[St.run];(repeat' split)<;>exact⟨rfl,rfl⟩)
theorem DD (D:St) (s:Nat):vK D (D.first s).1:=by
 have r0:vK D D:=⟨rfl,rfl⟩
 unfold St.first;simp only
 split
 . split<;>exact r0
 . exact Ij _ _ _ _
 . exact r0
 . exact r0
 . split
   . split
     . exact r0
     split
     . exact r0
     split
     . exact Bu _ _ _ _ _
     . exact r0
   . exact r0
end Go.Proofs.YthicolbbmjfkfaaGreat.Em
namespace Go.Proofs.YthicolbbmjfkfaaGreat.Em
open Go.ChangeShapes Go.WideShapes Go.ChangeAt Go.RowKit En
theorem fI (s:Nat) (hs:s<8) (w:World):zk 40 #[I s] w fun e E=>e=.returned (.bool true)∧w=E:=by
 have h1:(0:Int)<=(s:Int):=by omega
 have h2:(s:Int)<8:=by omega
 have h3:decide ((0:Int)<=(s:Int))=true:=by simp
 have h4:decide ((s:Int)<8)=true:=by simp;omega
 have h5:(s<8)=True:=by simpa using hs
 go_enter Tryz.func40,Tryz.ntmps40;go_wp2;go_ret;exact⟨rfl,rfl⟩
structure Live (A:au) (D:St) (w:World):Prop where
 rep:aC A D w
 mp:A.mp=0
 mt:∀ s,A.mt s=0
 call:∀ s,s<8->∀ c,D.calls.getD s none=some c->A.bF s=ptr (A.bc s)∧∃ k,c.k=some k∧ny (kp A D s) A.L w (A.bA s) k
 idle:∀ s,s<8->D.calls.getD s none=none->A.bF s=.pointer none
 sx:vD A D w
structure zW (A A':au) (s:Nat):Prop where
 bf:A'.Hw=A.Hw
 mp:A'.mp=A.mp
 mt:A'.mt=A.mt
 bt:∀ q,q≠s->A'.bt q=A.bt q
 bc:∀ q,q≠s->A'.bc q=A.bc q
 bx:∀ q,q≠s->A'.bx q=A.bx q
 aY:∀ q,q≠s->A'.aY q=A.aY q
 bA:∀ q,q≠s->A'.bA q=A.bA q
 bF:∀ q,q≠s->A'.bF q=A.bF q
theorem zW.H {A A':au} {s:Nat} (h:zW A A' s):A'.H=A.H:=Bc h.bf
theorem Live.of {A A':au} {D bB:St} {w E:World} {s:Nat} (hL:Live A D w) (hsw:bB.sw=D.sw∧bB.cut=D.cut) (r:aC A' bB E) (g:Grow A.L w A'.L E) (st:zW A A' s) (hq:∀ q,q≠s->bB.calls.getD q none=D.calls.getD q none)
 (h1:∀ c,bB.calls.getD s none=some c->A'.bF s=ptr (A'.bc s)∧∃ k,c.k=some k∧ny (kp A' bB s) A'.L E (A'.bA s) k) (h2:bB.calls.getD s none=none->A'.bF s=.pointer none):Live A' bB E:=by
 refine⟨r,st.mp.trans hL.mp,fun q=>by rw[st.mt];exact hL.mt q,fun q hq8 c hc=>?_,fun q hq8 hc=>?_,hL.sx.keep st.bf hsw g⟩
 . by_cases h:q=s
   . subst h;exact h1 c hc
   . have hc0:=(hq q h).symm.trans hc
     obtain⟨e1,k,e2,e3⟩:=hL.call q hq8 c hc0;have ek:kp A' bB q=kp A D q:=by
      unfold kp;rw[st.H,st.bt q h,st.bc q h,st.bx q h,st.aY q h,bu hc,bu hc0]
     refine⟨by rw[st.bF q h,st.bc q h];exact e1,k,e2,?_⟩;rw[ek,st.bA q h];exact e3.grow g
 . by_cases h:q=s
   . subst h;exact h2 hc
   . rw[st.bF q h]
     exact hL.idle q hq8 ((hq q h).symm.trans hc)
theorem ny.enter {p:KP} {L:dE} {w:World} {v:Value} {k:K} (h:ny p L w v k):∃ f b c,v=.func (.func f) b c∧∀ args w,(callFunc f args).run Tryz.prog w=.ok (.enter f args) w:=by
 cases k<;>first
  |(obtain⟨b0,e,_⟩:=h;exact⟨_,_,_,e,fun args w=>by kernel_rfl⟩)
  |(obtain⟨b0,b1,e,_⟩:=h;exact⟨_,_,_,e,fun args w=>by kernel_rfl⟩)
  |(obtain⟨b0,b1,b2,e,_⟩:=h;exact⟨_,_,_,e,fun args w=>by kernel_rfl⟩)
  |(obtain⟨b0,b1,b2,b3,e,_⟩:=h;exact⟨_,_,_,e,fun args w=>by kernel_rfl⟩)
  |(obtain⟨b0,b1,b2,b3,b4,e,_⟩:=h;exact⟨_,_,_,e,fun args w=>by kernel_rfl⟩)
  |(obtain⟨b0,b1,b2,b3,b4,b5,e,_⟩:=h;exact⟨_,_,_,e,fun args w=>by kernel_rfl⟩)
  | (rename_i l r; cases l
     . obtain⟨b0,b1,b2,b3,e,_⟩:=h;exact⟨_,_,_,e,fun args w=>by kernel_rfl⟩
     . obtain⟨b0,b1,b2,b3,b4,e,_⟩:=h;exact⟨_,_,_,e,fun args w=>by kernel_rfl⟩)
def Stepped (A:au) (w:World) (bB:St) (kind:Int) (r:oZ):Ending->World->Prop:=fun e E=>∃ A' vp,e=.returned (.tuple #[.agg #[I kind,I r.e,I r.value,vp,I r.over,I r.aQ],I 0])∧dS A'.L E 2 vp (bJ r.aO)∧Live A' bB E∧Grow A.L w A'.L E∧A'.H=A.H
def Bw (aH:St) (s:Nat) (k:K):Prop:=∀ A Y f b c,aC A aH Y->A.mp=0->A.mt s=0->ny (kp A aH s) A.L Y (.func (.func f) b c) k->zk f (b++c) Y (kY A Y s (aH.run s k))
theorem OO {A:au} {D:St} {w:World} (hL:Live A D w) (s:Nat) (hs:s<8) (t:bL) (ht:D.aj.getD s none=some t) (c:dN) (hc:D.calls.getD s none=some c) (k:K) (Z:c.k=some k) (aL:D.count<3000000000000000000) (aD:St) (ok:Option K) (aX:(D.aK s {c with waits:=false}).run s k=(aD,ok)) (HS:Bw (D.aK s {c with waits:=false}) s k) (c2:dN) (hc2:aD.calls.getD s none=some c2) (dl:Nat) (hdl:aD.count=D.count+dl) (hd1:dl<1000000) (hlk:aD.aI<1000000000000000000) (hcq:∀ q,q≠s->aD.calls.getD q none=D.calls.getD q none) (k':K) (hok:ok=some k') (hov:c2.over=false):
 zk 34 #[R A.H 0,I s] w (Stepped A w ({aD.aK s {c2 with k:=ok} with aI:=aD.aI+dl}) (if c2.waits then 2 else 1) {}):=by
 have Ns:Hid (aD.sw=D.sw∧aD.cut=D.cut):=zH (by have h:=FK (D.aK s {c with waits:=false}) s k;rw[aX] at h;exact h);obtain⟨Q,hQ⟩:∃ Q,Q=Stepped A w ({aD.aK s {c2 with k:=ok} with aI:=aD.aI+dl}) (if c2.waits then 2 else 1) {}:=⟨_,rfl⟩
 rw[<-hQ];have HQ:=zH hQ;clear hQ;obtain⟨r0,g0,fl,fh⟩:=hL.rep.rT (.cells #[I 0,I 0,I 0,.slice none 0 0,I 0,I 0] 81);obtain⟨uB,k0,hk0,hkr⟩:=hL.call s hs c hc;obtain rfl:k=k0:=by rw[Z] at hk0;exact zj hk0
 obtain⟨fv,fb,fc,Jo,hent⟩:=hkr.enter;have gH:=zH (fI s hs);have b1:(s:Int)<8:=by omega
 have b0:(0:Int)<=(s:Int):=by omega
 have v0:(w.alloc (.cells #[I 0,I 0,I 0,.slice none 0 0,I 0,I 0] 81)).cell? (J A.H (13+s))=zs (A.bc s) 0:=by rw[<-show A.bF s=R (A.bc s) 0 from uB];exact r0.df (13+s) (dP (A.tmp w.heap.size) D hs)
 have v1:(w.alloc (.cells #[I 0,I 0,I 0,.slice none 0 0,I 0,I 0] 81)).cell? (J A.H (5+s))=zs (A.bt s) 0:=by
  have h:=r0.df (5+s) (dI (A.tmp w.heap.size) D hs);have e:(A.tmp w.heap.size).tp D s=R (A.bt s) 0:=by unfold au.tp;rw[ht];rfl
  rw[e] at h;exact h
 obtain⟨aH,mE⟩:∃ aH,aH=D.aK s {c with waits:=false}:=⟨_,rfl⟩
 rw[<-mE] at aX HS;have hc1:aH.calls.getD s none=some {c with waits:=false}:=by rw[mE,dm (bP hc),aV rfl]
 have hkp:kp A aH s=kp A D s:=by unfold kp;rw[bu hc1,bu hc]
 have H5:Hid (∀ n w5,(w.alloc (.cells #[I 0,I 0,I 0,.slice none 0 0,I 0,I 0] 81)).drewN n=w5->zB w5 (A.bc s) 10 c.waits∧w5.frozen? (J (A.bc s) 10)=false∧∀ w6,w5.setCell (J (A.bc s) 10) (.bool false)=w6->zS w6 A.H 2 A.ba 0∧w6.cell? (J (A.bc s) 4)=some (.func (.func fv) fb fc)∧zk 71 #[R A.ba 0] w6 (fun e E=>e=.returned (I (D.count:Int))∧w6=E)∧zk fv (fb++fc) w6 (kY (A.tmp w.heap.size) w6 s (aD,ok))∧Grow A.L w (A.tmp w.heap.size).L w6∧((A.tmp w.heap.size).L w.heap.size=some .tmp∧w6.heap[w.heap.size]? =some (.cells #[I 0,I 0,I 0,.slice none 0 0,I 0,I 0] 81))):=by
  rintro n w5 rfl;have r5:=r0.drewN n;refine⟨r5.call hc 10 rfl,r5.qh hc 10,?_⟩;rintro w6 rfl;obtain⟨r6,g6⟩:=r5.sK hc {c with waits:=false} 10 (.bool false) rfl rfl;have yR:=(Grow.drewN (A.tmp w.heap.size).L (w.alloc (.cells #[I 0,I 0,I 0,.slice none 0 0,I 0,I 0] 81)) n).trans g6;have gg:=g0.trans yR;rw[<-mE] at r6;have h4:_=some (A.bA s):=r6.call hc1 4 rfl;rw[Jo] at h4;have h4':(((w.alloc (.cells #[I 0,I 0,I 0,.slice none 0 0,I 0,I 0] 81)).drewN n).setCell (J (A.bc s) 10) (.bool false)).cell? (J (A.bc s) 4)=some (.func (.func fv) fb fc):=h4;have Qd:=(hkr.grow gg)
  rw[Jo,<-hkp] at Qd;have hS:=HS (A.tmp w.heap.size) _ fv fb fc r6 hL.mp (hL.mt s) Qd;rw[aX] at hS;have hcn:=iX r6 (by rw[mE];exact Nat.lt_trans aL (by decide));have hcc:aH.count=D.count:=by rw[mE];rfl
  rw[hcc] at hcn;exact⟨r6.df 2 rfl,h4',hcn,hS,gg,dW ⟨fl,fh⟩ yR⟩
 have uC:=zH hL;have HF:=zH (zA hc2 (zA hdl (zA hcq (zA hs hlk))));have n1:IntKind.i64.wrap (((D.count+dl:Nat):Int) - (D.count:Int))=(dl:Int):=by rw[jG];omega
 have n2:IntKind.i64.wrap ((aD.aI:Int)+(dl:Int))=((aD.aI+dl:Nat):Int):=by rw[jG];omega
 have H7 : Hid (∀ A2 w2 v A3, A3 = { A2 with bA := kS A2.bA s v } -> aC A2 aD w2 -> bT (A.tmp w.heap.size) A2 s -> w2.cell? (J (A.bc s) 4) = some (A2.bA s) ∧ w2.frozen? (J (A.bc s) 4) = false ∧ ∀ w3, w2.setCell (J (A.bc s) 4) v = w3 -> zT w3 A.H 23 (aD.aI : Int) ∧ w3.frozen? (J A.H 23) = false ∧ zS w3 A.H 2 A.ba 0 ∧ zk 71 #[R A.ba 0] w3.drew (fun e E => e = .returned (I ((D.count + dl : Nat) : Int)) ∧ E = w3.drew) ∧
     ∀ w4,w3.drew.setCell (J A.H 23) (I ((aD.aI+dl:Nat):Int))=w4->aC A3 ({aD.aK s {c2 with k:=ok} with aI:=aD.aI+dl}) w4∧Grow A2.L w2 A2.L w4∧zB w4 (A.bc s) 10 c2.waits∧zB w4 (A.bc s) 11 c2.over):=by
  intro A2 w2 v A3 hA3 q st;have xu:A2.bc=A.bc:=st.bc;have Qe:A2.H=A.H:=st.H;have Uc:A2.ba=A.ba:=st.ba;have x4:=q.call hc2 4 (v:=A2.bA s) rfl;have z4:=q.qh hc2 4;rw[xu] at x4 z4;refine⟨x4,z4,?_⟩;rintro w3 rfl;obtain⟨r3,g3⟩:=q.sQ hc2 v ok;rw[<-hA3,xu] at r3;rw[xu] at g3;have e3:A3.H=A.H:=by rw[hA3];exact Qe
  have Ud:A3.ba=A.ba:=by rw[hA3];exact Uc
  have Ue:A3.bc=A.bc:=by rw[hA3];exact xu
  have Uf:A3.L=A2.L:=by rw[hA3]
  have y23:=r3.df 23 (v:=I (aD.aI:Int)) rfl;have z23:=r3.iC 23;have y2:=r3.df 2 (v:=R A3.ba 0) rfl;have hcn:=flip (iX r3.drew (by show aD.count<_;omega));rw[e3] at y23 z23 y2;rw[Ud] at hcn y2;rw[show (aD.aK s {c2 with k:=ok}).count=D.count+dl from hdl] at hcn;refine⟨y23,z23,y2,hcn,?_⟩;intro w4 hw4;obtain⟨r4,g4⟩:=r3.drew.sO (aD.aI+dl);rw[e3,hw4] at r4 g4;rw[Uf] at g4;have hc4:({aD.aK s {c2 with k:=ok} with aI:=aD.aI+dl}:St).calls.getD s none=some {c2 with k:=ok}:=by show (aD.aK s {c2 with k:=ok}).calls.getD s none=_;rw[dm (bP hc2),aV rfl]
  have FL:=r4.call hc4 10 (v:=.bool c2.waits) rfl;have Im:=r4.call hc4 11 (v:=.bool c2.over) rfl;rw[Ue] at FL Im;exact⟨r4,(g3.trans (Grow.drew _ _)).trans g4,FL,Im⟩
 have hwx:(w.alloc (.cells #[I 0,I 0,I 0,.slice none 0 0,I 0,I 0] 81)).cell? (J (A.bc s) 10)=zb c.waits:=r0.call hc 10 rfl;have Vt:=zH uB;clear hL ht hc Z aL aX HS hc2 hdl hd1 hlk hcq r0 g0 fl fh uB hk0 hkr Jo mE hc1 hkp hs;generalize (D.count:Int)=ca at*;generalize ((D.count+dl:Nat):Int)=cb at*;generalize ((aD.aI+dl:Nat):Int)=lb at*;go_enter Tryz.func34,Tryz.ntmps34;go_wp2_with (go_at_call 40;refine (gH.out _).mono ?_;rintro e E ⟨rfl,rfl⟩);generalize hw0:w.alloc _=w0 at*
 go_quiet (fail)
 generalize iZ:w0.drewN _=w5;obtain⟨SN,Kn,h6⟩:=H5.out _ w5 iZ;obtain⟨y2,y4,hcn,hS,gg,fD⟩:=h6 _ rfl;have HC:=zH hcn;have HX:=zH (zA hS (zA gg fD));clear hcn hS gg fD h6 iZ hw0 H5 v0 v1 hwx;go_wp2_with (go_at_call 71;refine HC.out.mono ?_;rintro e E ⟨rfl,rfl⟩);refine HX.out.1.mono ?_;rintro e w2 ⟨A2,v,rfl,q1,q2,q3,q4⟩;subst hok;obtain⟨f2,u2,u3,rfl,Yd⟩:=ny.enter q4;obtain⟨x4,z4,h3⟩:=H7.out A2 w2 (.func (.func f2) u2 u3) _ rfl q1 q3;obtain⟨y23,z23,y2',hcn,h4⟩:=h3 _ rfl;have Ug:=zH hcn;have Io:=zH (zA q1 (zA q2 (zA q3 (zA q4 h4))));clear hcn h3 h4 q1 q2 q3 q4 H7 SN Kn y2 y4;go_wp2_with fail;generalize hw3:w2.setCell (J (A.bc s) 4) (.func (.func f2) u2 u3)=w3 at*;refine wp_region_still_tail 14 (by kernel_rfl) (by kernel_rfl) ?_;simp only[jS,jT,jU,jV]
 repeat still_step
 still_call Ug.out
 repeat still_step
 refine wpStill_nil ?_;change wpList _ _ _ _ _ w3.drew;have Uh:w3.drew.cell? (J A.H 23)=zt (aD.aI:Int):=y23;have Ui:w3.drew.frozen? (J A.H 23)=false:=z23;generalize w3.drew=wd at*;obtain⟨r4,g4,FL,Im⟩:=Io.out.2.2.2.2 _ rfl;have fD:=dW (dW HX.out.2.2 Io.out.2.1) g4;have tJ:=zH (gM fD.2);have HY:=zH (zA r4 (zA g4 fD));have HOV:=zH hov;rw[hov] at Im;clear r4 g4 fD hov
 cases hwt:c2.waits
 . rw[hwt] at FL
   have Wm:=zH hwt;clear hwt;go_wp2_with (refine wpList_store_mid rfl 81 (.tmp 4) (.tmp 77) rfl w.heap.size 0 #[I 1,I 0,I 0,.slice none 0 0,I 0,I 0] rfl rfl tJ.out (by kernel_rfl) (by simp[Value.oneCell']) ?_;generalize hws:World.setCells _ _ _ _=ws);have fQ:=But.setCells w.heap.size [I 1,I 0,I 0,.slice none 0 0,I 0,I 0] 0 (wd.setCell (J A.H 23) (I lb));have hfin:=kJ HY.out.2.2.2 (I 1) (I 0) (I 0) (.slice none 0 0) (I 0) (I 0);rw[show (wd.setCell (J A.H 23) (I lb)).setCells w.heap.size 0 [I 1,I 0,I 0,.slice none 0 0,I 0,I 0]=ws from hws] at fQ hfin
   (try simp only[Exit.inBlock,Exit.then])
   refine bodyPost_ret (eD rfl _ _ w.heap.size 81 #[I 1,I 0,I 0,.slice none 0 0,I 0,I 0] _ _ rfl hfin Tryz.underlying81 rfl (by kernel_rfl)) rfl ?_;have hkd:(if c2.waits then (2:Int) else 1)=1:=by rw[Wm.out];rfl
   rw[HQ.out,hkd];obtain⟨hc2,hdl,hcq,hs,_⟩:=HF.out;obtain⟨q1,q2,q3,q4,_⟩:=Io.out;obtain⟨r4,g4,fD⟩:=HY.out;have r5:=r4.but fD.1 fQ;have gg:=(((HX.out.2.1.trans q2).trans g4).but (zr _) fQ)
   have hc':({aD.aK s {c2 with k:=some k'} with aI:=aD.aI+dl}:St).calls.getD s none=some {c2 with k:=some k'}:=by show (aD.aK s {c2 with k:=some k'}).calls.getD s none=_;rw[dm (bP hc2),aV rfl]
   refine⟨{A2 with bA:=kS A2.bA s (.func (.func f2) u2 u3)},.slice none 0 0,rfl,dS.nil _ _ _,Live.of (s:=s) uC.out Ns.out r5 gg ⟨q3.bf,q3.mp,q3.mt,fun q _=>by rw[show ({A2 with bA:=_}:au).bt=A.bt from q3.bt],fun q _=>by rw[show ({A2 with bA:=_}:au).bc=A.bc from q3.bc],q3.bx,q3.aY,fun q hq=>(bH _ _ hq).trans (congrFun q3.bA q),fun q _=>congrFun q3.bF q⟩ (fun q hq=>?_) (fun c' hcc=>?_) (fun hnn=>by have h0:=hc'.symm.trans hnn;cases h0),gg,q3.H⟩
   . show (aD.aK s _).calls.getD q none=_
     rw[dm (bP hc2),aR hq];exact hcq q hq
   . obtain rfl:{c2 with k:=some k'}=c':=zj (hc'.symm.trans hcc)
     refine⟨?_,k',rfl,?_⟩
     . show A2.bF s=ptr (A2.bc s)
       rw[q3.bF,q3.bc];exact Vt.out
     . have ek:kp {A2 with bA:=kS A2.bA s (.func (.func f2) u2 u3)} ({aD.aK s {c2 with k:=some k'} with aI:=aD.aI+dl}:St) s=kp A2 aD s:=by unfold kp;rw[bu hc',bu hc2]
       rw[ek,show ({A2 with bA:=kS A2.bA s (.func (.func f2) u2 u3)}:au).bA s=.func (.func f2) u2 u3 from lU _ _ _];exact (q4.grow g4).soft (fQ.soft fD.1)
 . rw[hwt] at FL
   have Wm:=zH hwt;clear hwt;go_wp2_with (refine wpList_store_mid rfl 81 (.tmp 4) (.tmp 70) rfl w.heap.size 0 #[I 2,I 0,I 0,.slice none 0 0,I 0,I 0] rfl rfl tJ.out (by kernel_rfl) (by simp[Value.oneCell']) ?_;generalize hws:World.setCells _ _ _ _=ws);have fQ:=But.setCells w.heap.size [I 2,I 0,I 0,.slice none 0 0,I 0,I 0] 0 (wd.setCell (J A.H 23) (I lb));have hfin:=kJ HY.out.2.2.2 (I 2) (I 0) (I 0) (.slice none 0 0) (I 0) (I 0);rw[show (wd.setCell (J A.H 23) (I lb)).setCells w.heap.size 0 [I 2,I 0,I 0,.slice none 0 0,I 0,I 0]=ws from hws] at fQ hfin
   (try simp only[Exit.inBlock,Exit.then])
   refine bodyPost_ret (eD rfl _ _ w.heap.size 81 #[I 2,I 0,I 0,.slice none 0 0,I 0,I 0] _ _ rfl hfin Tryz.underlying81 rfl (by kernel_rfl)) rfl ?_;have hkd:(if c2.waits then (2:Int) else 1)=2:=by rw[Wm.out];rfl
   rw[HQ.out,hkd];obtain⟨hc2,hdl,hcq,hs,_⟩:=HF.out;obtain⟨q1,q2,q3,q4,_⟩:=Io.out;obtain⟨r4,g4,fD⟩:=HY.out;have r5:=r4.but fD.1 fQ;have gg:=(((HX.out.2.1.trans q2).trans g4).but (zr _) fQ)
   have hc':({aD.aK s {c2 with k:=some k'} with aI:=aD.aI+dl}:St).calls.getD s none=some {c2 with k:=some k'}:=by show (aD.aK s {c2 with k:=some k'}).calls.getD s none=_;rw[dm (bP hc2),aV rfl]
   refine⟨{A2 with bA:=kS A2.bA s (.func (.func f2) u2 u3)},.slice none 0 0,rfl,dS.nil _ _ _,Live.of (s:=s) uC.out Ns.out r5 gg ⟨q3.bf,q3.mp,q3.mt,fun q _=>by rw[show ({A2 with bA:=_}:au).bt=A.bt from q3.bt],fun q _=>by rw[show ({A2 with bA:=_}:au).bc=A.bc from q3.bc],q3.bx,q3.aY,fun q hq=>(bH _ _ hq).trans (congrFun q3.bA q),fun q _=>congrFun q3.bF q⟩ (fun q hq=>?_) (fun c' hcc=>?_) (fun hnn=>by have h0:=hc'.symm.trans hnn;cases h0),gg,q3.H⟩
   . show (aD.aK s _).calls.getD q none=_
     rw[dm (bP hc2),aR hq];exact hcq q hq
   . obtain rfl:{c2 with k:=some k'}=c':=zj (hc'.symm.trans hcc)
     refine⟨?_,k',rfl,?_⟩
     . show A2.bF s=ptr (A2.bc s)
       rw[q3.bF,q3.bc];exact Vt.out
     . have ek:kp {A2 with bA:=kS A2.bA s (.func (.func f2) u2 u3)} ({aD.aK s {c2 with k:=some k'} with aI:=aD.aI+dl}:St) s=kp A2 aD s:=by unfold kp;rw[bu hc',bu hc2]
       rw[ek,show ({A2 with bA:=kS A2.bA s (.func (.func f2) u2 u3)}:au).bA s=.func (.func f2) u2 u3 from lU _ _ _];exact (q4.grow g4).soft (fQ.soft fD.1)
theorem uL (o:En.Op) (h:p9 o=true) (w:World):zk 68 #[.agg #[I o.kind,I o.F,I o.hi,I o.value]] w fun e E=>e=.returned (.bool true)∧Below w.heap.size w E:=by
 have hb:Below w.heap.size w (w.alloc (.cells #[I o.kind,I o.F,I o.hi,I o.value] 27)):=(Below.refl _ _).alloc (zr _) _;have HB:=zH hb;clear hb;obtain⟨kind,F,hi,value⟩:=o;unfold p9 at h;simp only at h HB ⊢;have Z:kind=1∨kind=2∨kind=3∨kind=4∨kind=5∨kind=6∨kind=7:=by
  by_cases h1:kind=1;exact .inl h1
  by_cases h2:kind=2;exact .inr (.inl h2)
  by_cases h3:kind=3;exact .inr (.inr (.inl h3))
  by_cases h4:kind=4;exact .inr (.inr (.inr (.inl h4)))
  by_cases h5:kind=5;exact .inr (.inr (.inr (.inr (.inl h5))))
  by_cases h6:kind=6;exact .inr (.inr (.inr (.inr (.inr (.inl h6)))))
  by_cases h7:kind=7;exact .inr (.inr (.inr (.inr (.inr (.inr h7)))))
  simp[h1,h2,h3,h4,h5,h6,h7] at h
 rcases Z with rfl|rfl|rfl|rfl|rfl|rfl|rfl
 . simp only[il,zd,beq_iff_eq] at h
   have hx:=h;have a1:decide ((F:Int)<=(63:Int))=true:=by simp;omega
   have a2:((F:Int)<=(63:Int))=True:=by simp;omega
   have b1:((hi:Int)==0)=true:=by simp;omega
   have b2:((hi:Int)=0)=True:=by simp;omega
   have c1:((value:Int)==0)=true:=by simp;omega
   have c2:((value:Int)=0)=True:=by simp;omega
   clear h hx;go_enter Tryz.func68,Tryz.ntmps68;go_wp2;go_ret;exact⟨rfl,HB.out⟩
 . simp only[il,zd,beq_iff_eq] at h
   have hx:=h;have a1:decide ((F:Int)<=(63:Int))=true:=by simp;omega
   have a2:((F:Int)<=(63:Int))=True:=by simp;omega
   have b1:((hi:Int)==0)=true:=by simp;omega
   have b2:((hi:Int)=0)=True:=by simp;omega
   have c1:decide ((value:Int)<=(65535:Int))=true:=by simp;omega
   have c2:((value:Int)<=(65535:Int))=True:=by simp;omega
   clear h hx;go_enter Tryz.func68,Tryz.ntmps68;go_wp2;go_ret;exact⟨rfl,HB.out⟩
 . simp only[il,zd,beq_iff_eq] at h
   have hx:=h;have a1:decide ((F:Int)<=(63:Int))=true:=by simp;omega
   have a2:((F:Int)<=(63:Int))=True:=by simp;omega
   have b1:((hi:Int)==0)=true:=by simp;omega
   have b2:((hi:Int)=0)=True:=by simp;omega
   have c1:decide ((value:Int)<=(65535:Int))=true:=by simp;omega
   have c2:((value:Int)<=(65535:Int))=True:=by simp;omega
   clear h hx;go_enter Tryz.func68,Tryz.ntmps68;go_wp2;go_ret;exact⟨rfl,HB.out⟩
 . simp only[il,zd,beq_iff_eq] at h
   have hx:=h;have a1:decide ((F:Int)<=(63:Int))=true:=by simp;omega
   have a2:((F:Int)<=(63:Int))=True:=by simp;omega
   have b1:((hi:Int)==0)=true:=by simp;omega
   have b2:((hi:Int)=0)=True:=by simp;omega
   have c1:((value:Int)==0)=true:=by simp;omega
   have c2:((value:Int)=0)=True:=by simp;omega
   clear h hx;go_enter Tryz.func68,Tryz.ntmps68;go_wp2;go_ret;exact⟨rfl,HB.out⟩
 . simp only[il,zd,beq_iff_eq] at h
   have hx:=h;have a1:decide ((F:Int)<=(63:Int))=true:=by simp;omega
   have a2:((F:Int)<=(63:Int))=True:=by simp;omega
   have b1:decide ((F:Int)<=(hi:Int))=true:=by simp;omega
   have b2:((F:Int)<=(hi:Int))=True:=by simp;omega
   have e1:decide ((hi:Int)<=(63:Int))=true:=by simp;omega
   have e2:((hi:Int)<=(63:Int))=True:=by simp;omega
   have c1:((value:Int)==0)=true:=by simp;omega
   have c2:((value:Int)=0)=True:=by simp;omega
   clear h hx;go_enter Tryz.func68,Tryz.ntmps68;go_wp2;go_ret;exact⟨rfl,HB.out⟩
 . simp only[il,zd,beq_iff_eq] at h
   have hx:=h;have a1:((F:Int)==0)=true:=by simp;omega
   have a2:((F:Int)=0)=True:=by simp;omega
   have b1:((hi:Int)==0)=true:=by simp;omega
   have b2:((hi:Int)=0)=True:=by simp;omega
   have c1:((value:Int)==0)=true:=by simp;omega
   have c2:((value:Int)=0)=True:=by simp;omega
   clear h hx;go_enter Tryz.func68,Tryz.ntmps68;go_wp2;go_ret;exact⟨rfl,HB.out⟩
 . simp only[il,zd,beq_iff_eq] at h
   have hx:=h;have a1:((F:Int)==0)=true:=by simp;omega
   have a2:((F:Int)=0)=True:=by simp;omega
   have b1:((hi:Int)==0)=true:=by simp;omega
   have b2:((hi:Int)=0)=True:=by simp;omega
   have c1:((value:Int)==0)=true:=by simp;omega
   have c2:((value:Int)=0)=True:=by simp;omega
   clear h hx;go_enter Tryz.func68,Tryz.ntmps68;go_wp2;go_ret;exact⟨rfl,HB.out⟩
theorem Bz (o:En.Op) (w:World):zk 69 #[.agg #[I o.kind,I o.F,I o.hi,I o.value]] w fun e E=>e=.returned (.bool (iB o))∧Below w.heap.size w E:=by
 have hb:Below w.heap.size w (w.alloc (.cells #[I o.kind,I o.F,I o.hi,I o.value] 27)):=(Below.refl _ _).alloc (zr _) _;have HB:=zH hb;clear hb;have he:iB o=(decide (o.kind=6)||decide (o.kind=7)):=by unfold iB;by_cases h1:o.kind=6<;>by_cases h2:o.kind=7<;>simp[h1,h2]
 rw[he];clear he;generalize o.kind=kd at*
 by_cases h6:kd=6
 . subst h6
   go_enter Tryz.func69,Tryz.ntmps69;go_wp2;go_ret;exact⟨rfl,HB.out⟩
 . have a1:((kd:Int)==6)=false:=by simp;omega
   have a2:((kd:Int)=6)=False:=by simp;omega
   by_cases h7:kd=7
   . have b1:((kd:Int)==7)=true:=by simp;omega
     have b2:((kd:Int)=7)=True:=by simp;omega
     have HX:=zH (zA h6 h7);clear h6 h7;go_enter Tryz.func69,Tryz.ntmps69;go_wp2;go_ret;exact⟨by simp[HX.out.1,HX.out.2],HB.out⟩
   . have b1:((kd:Int)==7)=false:=by simp;omega
     have b2:((kd:Int)=7)=False:=by simp;omega
     have HX:=zH (zA h6 h7);clear h6 h7;go_enter Tryz.func69,Tryz.ntmps69;go_wp2;go_ret;exact⟨by simp[HX.out.1,HX.out.2],HB.out⟩
theorem wI (l:Nat) (h1:1<=l) (h2:l<=3) (w:World):zk 41 #[I l] w fun e E=>e=.returned (.bool true)∧w=E:=by
 have d1:decide ((1:Int)<=(l:Int))=true:=by simp;omega
 have d2:decide ((l:Int)<=3)=true:=by simp;omega
 have e1:((1:Int)<=(l:Int))=True:=by simp;omega
 have e2:((l:Int)<=3)=True:=by simp;omega
 have g1:(1<=l)=True:=by simp;omega
 have g2:(l<=3)=True:=by simp;omega
 have g3:(0<l)=True:=by simp;omega
 clear h1 h2;go_enter Tryz.func41,Tryz.ntmps41;go_wp2;go_ret;exact⟨rfl,rfl⟩
theorem qO {A:au} {D:St} {w:World} (hL:Live A D w) (s:Nat) (hs:s<8) (t:bL) (ht:D.aj.getD s none=some t) (c:dN) (hc:D.calls.getD s none=some c) (k:K) (Z:c.k=some k) (aL:D.count<3000000000000000000) (aD:St) (ok:Option K) (aX:(D.aK s {c with waits:=false}).run s k=(aD,ok)) (HS:Bw (D.aK s {c with waits:=false}) s k) (c2:dN) (hc2:aD.calls.getD s none=some c2) (dl:Nat) (hdl:aD.count=D.count+dl) (hd1:dl<1000000) (hlk:aD.aI<1000000000000000000) (hcq:∀ q,q≠s->aD.calls.getD q none=D.calls.getD q none) (hok:ok=none) (hw:c2.waits=false) (hov:c2.over=true) (hpr:c2.r.aO=[]) (hro:c2.r.over≠0):
 zk 34 #[R A.H 0,I s] w (Stepped A w ({aD.aK s {c2 with k:=ok} with aI:=aD.aI+dl,calls:=(aD.aK s {c2 with k:=ok}).calls.set s none,aj:=aD.aj.set s none}) 3 c2.r):=by
 have Ns:Hid (aD.sw=D.sw∧aD.cut=D.cut):=zH (by have h:=FK (D.aK s {c with waits:=false}) s k;rw[aX] at h;exact h);obtain⟨Q,hQ⟩:∃ Q,Q=Stepped A w ({aD.aK s {c2 with k:=ok} with aI:=aD.aI+dl,calls:=(aD.aK s {c2 with k:=ok}).calls.set s none,aj:=aD.aj.set s none}) 3 c2.r:=⟨_,rfl⟩
 rw[<-hQ];have HQ:=zH hQ;clear hQ;obtain⟨r0,g0,fl,fh⟩:=hL.rep.rT (.cells #[I 0,I 0,I 0,.slice none 0 0,I 0,I 0] 81);obtain⟨uB,k0,hk0,hkr⟩:=hL.call s hs c hc;obtain rfl:k=k0:=by rw[Z] at hk0;exact zj hk0
 obtain⟨fv,fb,fc,Jo,hent⟩:=hkr.enter;have gH:=zH (fI s hs);have b1:(s:Int)<8:=by omega
 have b0:(0:Int)<=(s:Int):=by omega
 have v0:(w.alloc (.cells #[I 0,I 0,I 0,.slice none 0 0,I 0,I 0] 81)).cell? (J A.H (13+s))=zs (A.bc s) 0:=by rw[<-show A.bF s=R (A.bc s) 0 from uB];exact r0.df (13+s) (dP (A.tmp w.heap.size) D hs)
 have v1:(w.alloc (.cells #[I 0,I 0,I 0,.slice none 0 0,I 0,I 0] 81)).cell? (J A.H (5+s))=zs (A.bt s) 0:=by
  have h:=r0.df (5+s) (dI (A.tmp w.heap.size) D hs);have e:(A.tmp w.heap.size).tp D s=R (A.bt s) 0:=by unfold au.tp;rw[ht];rfl
  rw[e] at h;exact h
 obtain⟨aH,mE⟩:∃ aH,aH=D.aK s {c with waits:=false}:=⟨_,rfl⟩
 rw[<-mE] at aX HS;have hc1:aH.calls.getD s none=some {c with waits:=false}:=by rw[mE,dm (bP hc),aV rfl]
 have hkp:kp A aH s=kp A D s:=by unfold kp;rw[bu hc1,bu hc]
 have H5:Hid (∀ n w5,(w.alloc (.cells #[I 0,I 0,I 0,.slice none 0 0,I 0,I 0] 81)).drewN n=w5->zB w5 (A.bc s) 10 c.waits∧w5.frozen? (J (A.bc s) 10)=false∧∀ w6,w5.setCell (J (A.bc s) 10) (.bool false)=w6->zS w6 A.H 2 A.ba 0∧w6.cell? (J (A.bc s) 4)=some (.func (.func fv) fb fc)∧zk 71 #[R A.ba 0] w6 (fun e E=>e=.returned (I (D.count:Int))∧w6=E)∧zk fv (fb++fc) w6 (kY (A.tmp w.heap.size) w6 s (aD,ok))∧Grow A.L w (A.tmp w.heap.size).L w6∧((A.tmp w.heap.size).L w.heap.size=some .tmp∧w6.heap[w.heap.size]? =some (.cells #[I 0,I 0,I 0,.slice none 0 0,I 0,I 0] 81))):=by
  rintro n w5 rfl;have r5:=r0.drewN n;refine⟨r5.call hc 10 rfl,r5.qh hc 10,?_⟩;rintro w6 rfl;obtain⟨r6,g6⟩:=r5.sK hc {c with waits:=false} 10 (.bool false) rfl rfl;have yR:=(Grow.drewN (A.tmp w.heap.size).L (w.alloc (.cells #[I 0,I 0,I 0,.slice none 0 0,I 0,I 0] 81)) n).trans g6;have gg:=g0.trans yR;rw[<-mE] at r6;have h4:_=some (A.bA s):=r6.call hc1 4 rfl;rw[Jo] at h4;have h4':(((w.alloc (.cells #[I 0,I 0,I 0,.slice none 0 0,I 0,I 0] 81)).drewN n).setCell (J (A.bc s) 10) (.bool false)).cell? (J (A.bc s) 4)=some (.func (.func fv) fb fc):=h4;have Qd:=(hkr.grow gg)
  rw[Jo,<-hkp] at Qd;have hS:=HS (A.tmp w.heap.size) _ fv fb fc r6 hL.mp (hL.mt s) Qd;rw[aX] at hS;have hcn:=iX r6 (by rw[mE];exact Nat.lt_trans aL (by decide));have hcc:aH.count=D.count:=by rw[mE];rfl
  rw[hcc] at hcn;exact⟨r6.df 2 rfl,h4',hcn,hS,gg,dW ⟨fl,fh⟩ yR⟩
 have uC:=zH hL;have HF:=zH (zA hc2 (zA hdl (zA hcq (zA hs hlk))));have n1:IntKind.i64.wrap (((D.count+dl:Nat):Int) - (D.count:Int))=(dl:Int):=by rw[jG];omega
 have n2:IntKind.i64.wrap ((aD.aI:Int)+(dl:Int))=((aD.aI+dl:Nat):Int):=by rw[jG];omega
 have H7 : Hid (∀ A2 w2 v A3, A3 = { A2 with bA := kS A2.bA s v } -> aC A2 aD w2 -> bT (A.tmp w.heap.size) A2 s -> w2.cell? (J (A.bc s) 4) = some (A2.bA s) ∧ w2.frozen? (J (A.bc s) 4) = false ∧ ∀ w3, w2.setCell (J (A.bc s) 4) v = w3 -> zT w3 A.H 23 (aD.aI : Int) ∧ w3.frozen? (J A.H 23) = false ∧ zS w3 A.H 2 A.ba 0 ∧ zk 71 #[R A.ba 0] w3.drew (fun e E => e = .returned (I ((D.count + dl : Nat) : Int)) ∧ E = w3.drew) ∧
     ∀ w4,w3.drew.setCell (J A.H 23) (I ((aD.aI+dl:Nat):Int))=w4->aC A3 ({aD.aK s {c2 with k:=ok} with aI:=aD.aI+dl}) w4∧Grow A2.L w2 A2.L w4∧zB w4 (A.bc s) 10 c2.waits∧zB w4 (A.bc s) 11 c2.over):=by
  intro A2 w2 v A3 hA3 q st;have xu:A2.bc=A.bc:=st.bc;have Qe:A2.H=A.H:=st.H;have Uc:A2.ba=A.ba:=st.ba;have x4:=q.call hc2 4 (v:=A2.bA s) rfl;have z4:=q.qh hc2 4;rw[xu] at x4 z4;refine⟨x4,z4,?_⟩;rintro w3 rfl;obtain⟨r3,g3⟩:=q.sQ hc2 v ok;rw[<-hA3,xu] at r3;rw[xu] at g3;have e3:A3.H=A.H:=by rw[hA3];exact Qe
  have Ud:A3.ba=A.ba:=by rw[hA3];exact Uc
  have Ue:A3.bc=A.bc:=by rw[hA3];exact xu
  have Uf:A3.L=A2.L:=by rw[hA3]
  have y23:=r3.df 23 (v:=I (aD.aI:Int)) rfl;have z23:=r3.iC 23;have y2:=r3.df 2 (v:=R A3.ba 0) rfl;have hcn:=flip (iX r3.drew (by show aD.count<_;omega));rw[e3] at y23 z23 y2;rw[Ud] at hcn y2;rw[show (aD.aK s {c2 with k:=ok}).count=D.count+dl from hdl] at hcn;refine⟨y23,z23,y2,hcn,?_⟩;intro w4 hw4;obtain⟨r4,g4⟩:=r3.drew.sO (aD.aI+dl);rw[e3,hw4] at r4 g4;rw[Uf] at g4;have hc4:({aD.aK s {c2 with k:=ok} with aI:=aD.aI+dl}:St).calls.getD s none=some {c2 with k:=ok}:=by show (aD.aK s {c2 with k:=ok}).calls.getD s none=_;rw[dm (bP hc2),aV rfl]
  have FL:=r4.call hc4 10 (v:=.bool c2.waits) rfl;have Im:=r4.call hc4 11 (v:=.bool c2.over) rfl;rw[Ue] at FL Im;exact⟨r4,(g3.trans (Grow.drew _ _)).trans g4,FL,Im⟩
 have hwx:(w.alloc (.cells #[I 0,I 0,I 0,.slice none 0 0,I 0,I 0] 81)).cell? (J (A.bc s) 10)=zb c.waits:=r0.call hc 10 rfl;have Vt:=zH uB;clear hL ht hc Z aL aX HS hc2 hdl hd1 hlk hcq r0 g0 fl fh uB hk0 hkr Jo mE hc1 hkp hs;generalize (D.count:Int)=ca at*;generalize ((D.count+dl:Nat):Int)=cb at*;generalize ((aD.aI+dl:Nat):Int)=lb at*;go_enter Tryz.func34,Tryz.ntmps34;go_wp2_with (go_at_call 40;refine (gH.out _).mono ?_;rintro e E ⟨rfl,rfl⟩);generalize hw0:w.alloc _=w0 at*
 go_quiet (fail)
 generalize iZ:w0.drewN _=w5;obtain⟨SN,Kn,h6⟩:=H5.out _ w5 iZ;obtain⟨y2,y4,hcn,hS,gg,fD⟩:=h6 _ rfl;have HC:=zH hcn;have HX:=zH (zA hS (zA gg fD));clear hcn hS gg fD h6 iZ hw0 H5 v0 v1 hwx;go_wp2_with (go_at_call 71;refine HC.out.mono ?_;rintro e E ⟨rfl,rfl⟩);refine HX.out.1.mono ?_;rintro e w2 ⟨A2,v,rfl,q1,q2,q3,q4⟩;subst hok;have hv:v=.nilFunc:=q4;clear q4;subst hv;obtain⟨x4,z4,h3⟩:=H7.out A2 w2 .nilFunc _ rfl q1 q3;obtain⟨y23,z23,y2',hcn,h4⟩:=h3 _ rfl;have Ug:=zH hcn;have Io:=zH (zA q1 (zA q2 (zA q3 h4)));clear hcn h3 h4 q1 q2 q3 H7 SN Kn y2 y4;go_wp2_with fail;generalize hw3:w2.setCell (J (A.bc s) 4) .nilFunc=w3 at*;refine wp_region_still_tail 14 (by kernel_rfl) (by kernel_rfl) ?_;simp only[jS,jT,jU,jV]
 repeat still_step
 still_call Ug.out
 repeat still_step
 refine wpStill_nil ?_;change wpList _ _ _ _ _ w3.drew;have Uh:w3.drew.cell? (J A.H 23)=zt (aD.aI:Int):=y23;have Ui:w3.drew.frozen? (J A.H 23)=false:=z23;generalize w3.drew=wd at*;obtain⟨r4,g4,FL,Im⟩:=Io.out.2.2.2 _ rfl;rw[hw] at FL;rw[hov] at Im;obtain⟨hc2,hdl,hcq,hs,_⟩:=HF.out;have q3:=Io.out.2.2.1;have Qe:A2.H=A.H:=q3.H;have xu:A2.bc=A.bc:=q3.bc;have hc4:({aD.aK s {c2 with k:=none} with aI:=aD.aI+dl}:St).calls.getD s none=some {c2 with k:=none}:=by show (aD.aK s {c2 with k:=none}).calls.getD s none=_;rw[dm (bP hc2),aV rfl]
 have m13:=r4.df (13+s) (dP {A2 with bA:=kS A2.bA s .nilFunc} _ hs);have Km:=r4.iC (13+s);obtain⟨r5,g5⟩:=r4.sP hs (.pointer none);have m8:=r5.call hc4 8 (v:=I c2.r.over) rfl;have m5:=r5.df (5+s) (dI {A2 with bA:=kS A2.bA s .nilFunc,bF:=kS A2.bF s (.pointer none)} _ hs);have z5:=r5.iC (5+s);obtain⟨r6,g6⟩:=r5.NF hs;have aU:=r6.mem.all (.aO s);rw[iI (A:={A2 with bA:=kS A2.bA s .nilFunc,bF:=kS A2.bF s (.pointer none)}) (D:={({aD.aK s {c2 with k:=none} with aI:=aD.aI+dl}:St) with aj:=({aD.aK s {c2 with k:=none} with aI:=aD.aI+dl}:St).aj.set s none}) hc4] at aU;obtain⟨pa,yZ,hpv,_⟩:=Ow.bN aU.1;rw[show ({c2 with k:=none}:dN).r.aO.length=0 by rw[show ({c2 with k:=none}:dN).r.aO=[] from hpr];rfl] at hpv;have p0:=r6.call hc4 5 (v:=I c2.r.e) rfl;have p1:=r6.call hc4 6 (v:=I c2.r.value) rfl;have p2:=r6.call hc4 7 (v:=A2.aY s) rfl;have p3:=r6.call hc4 8 (v:=I c2.r.over) rfl;have p4:=r6.call hc4 9 (v:=I c2.r.aQ) rfl;rw[show A2.aY s=.slice pa 0 yZ from hpv] at p2;simp only[Qe,xu] at m13 Km r5 g5 m8 m5 z5 r6 g6 p0 p1 p2 p3 p4;have d1:((c2.r.over:Int)==0)=false:=by simp;omega
 have d2:((c2.r.over:Int) !=0)=true:=by simp;omega
 have d3:((c2.r.over:Int)=0)=False:=by simp;omega
 have fD:=dW (dW (dW (dW HX.out.2.2 Io.out.2.1) g4) g5) g6;have HY:=zH (zA r6 (zA (((g4.trans g5).trans g6)) (zA fD (zA hpr hro))));have YZ:=zH (FJ (((wd.setCell (J A.H 23) (I lb)).setCell (J A.H (13+s)) (.pointer none)).setCell (J A.H (5+s)) (.pointer none)) c2.r.e c2.r.value c2.r.over c2.r.aQ pa yZ);clear r4 g4 r5 g5 r6 g6 fD aU hpv q3 Qe xu hc4 hc2 hdl hcq hw hov hpr hro;go_wp2_with (first|(go_at_call 53;refine YZ.out.mono ?_;rintro e w7 ⟨rfl,hb⟩;have Wn:=zH hb;have tJ:=zH (gM (dW HY.out.2.2.1 (Grow.below (L:=A2.L) hb)).2);clear hb)|(refine wpList_store_mid rfl 81 (.tmp 4) (.tmp 115) rfl w.heap.size 0 #[I 3,I c2.r.e,I c2.r.value,.slice none 0 0,I c2.r.over,I c2.r.aQ] rfl rfl tJ.out (by kernel_rfl) (by simp[Value.oneCell']) ?_;generalize hws:World.setCells _ _ _ _=ws));have fQ:=But.setCells w.heap.size [I 3,I c2.r.e,I c2.r.value,.slice none 0 0,I c2.r.over,I c2.r.aQ] 0 w7;have fD:=dW HY.out.2.2.1 (Grow.below (L:=A2.L) Wn.out);have hfin:=kJ fD.2 (I 3) (I c2.r.e) (I c2.r.value) (.slice none 0 0) (I c2.r.over) (I c2.r.aQ);rw[show w7.setCells w.heap.size 0 [I 3,I c2.r.e,I c2.r.value,.slice none 0 0,I c2.r.over,I c2.r.aQ]=ws from hws] at fQ hfin
 (try simp only[Exit.inBlock,Exit.then])
 refine bodyPost_ret (eD rfl _ _ w.heap.size 81 #[I 3,I c2.r.e,I c2.r.value,.slice none 0 0,I c2.r.over,I c2.r.aQ] _ _ rfl hfin Tryz.underlying81 rfl (by kernel_rfl)) rfl ?_;rw[HQ.out];obtain⟨hc2,hdl,hcq,hs,_⟩:=HF.out;obtain⟨q1,q2,q3,_⟩:=Io.out;obtain⟨r6,g6,_,hpr,hro⟩:=HY.out;have r7:=((r6.below Wn.out).Cz s).but fD.1 fQ;have gg:=((((HX.out.2.1.trans q2).trans g6).trans (Grow.below (L:=A2.L) Wn.out)).but (zr _) fQ)
 have hlen:s<(aD.aK s {c2 with k:=none}).calls.length:=by have:=bP hc2;simpa [St.aK] using this
 have hns:((aD.aK s {c2 with k:=none}).calls.set s none).getD s none=none:=by rw[kH _ _ _ _ _ hlen,aV rfl]
 refine⟨{A2 with H:=A.H,bc:=A.bc,bA:=kS A2.bA s .nilFunc,bF:=kS A2.bF s (.pointer none)},.slice none 0 0,rfl,by rw[hpr];exact dS.nil _ _ _,Live.of (s:=s) uC.out Ns.out r7 gg ⟨(by show (A.H,A2.Vg)=_;rw[show A2.Vg=A.Vg from congrArg (·.2) q3.bf];rfl),q3.mp,q3.mt,fun q _=>congrFun q3.bt q,fun q _=>rfl,q3.bx,q3.aY,fun q hq=>(bH _ _ hq).trans (congrFun q3.bA q),fun q hq=>(bH _ _ hq).trans (congrFun q3.bF q)⟩ (fun q hq=>?_) (fun c' hcc=>?_) (fun hnn=>lU _ _ _),gg,rfl⟩
 . show ((aD.aK s {c2 with k:=none}).calls.set s none).getD q none=_
   rw[kH _ _ _ _ _ hlen,aR hq,dm (bP hc2),aR hq];exact hcq q hq
 . have h0:=hns.symm.trans hcc
   cases h0
theorem jZ:∀ l:List (Nat×Nat),(bJ l).length=l.length*2
 |[]=>rfl
 |p::l=>by have:=jZ l;simp[bJ,two] at this ⊢;omega
theorem xw:∀ (l:List (Nat×Nat)) (k:Nat) (p:Nat×Nat),l[k]? =some p->(bJ l)[k*2]? =zt p.1∧(bJ l)[k*2+1]? =zt p.2
 |[],_,_,h=>by cases h
 |q::l,0,p,h=>by
  obtain rfl:q=p:=by simpa using h
  exact⟨rfl,rfl⟩
 |q::l,k+1,p,h=>by
  have:=xw l k p (by simpa using h);rw[show (k+1)*2=k*2+1+1 by omega];exact this
theorem OP (a b c d:Int) (w:World):(binOp .neq 152 (.agg #[I a,I b]) (.agg #[I c,I d])).run Tryz.prog w=.ok (.bool (!(decide (a=c)&&decide (b=d)))) w:=by
 go_simp
 repeat' split
 all_goals simp[*]
set_option maxHeartbeats 1000000 in
theorem FM (va vb:Value) (ps:List (Nat×Nat)) (ba bb:Nat) (w:World) (hA:Ow.Row w ba 2 va (bJ ps)) (hB:Ow.Row w bb 2 vb (bJ ps)):
 zk 52 #[va,vb] w fun e E=>e=.returned (.bool true)∧Below w.heap.size w E:=by
 obtain⟨a,n,cap,rfl,hn,hc,hm,ha⟩:=hA;obtain⟨b,n',cap',rfl,hn',hc',hm',hb⟩:=hB;rw[jZ] at hn hn';obtain rfl:n=n':=by omega
 have HX:Hid (ps.length=n):=by exact (by omega:ps.length=n)
 unfold maxLen at hm;have hmax:n<=9223372036854775807:=by omega
 clear hn hn' hm hm' hc hc';go_enter Tryz.func52,Tryz.ntmps52;go_wp2
 go_loopw [5] (fun i wr=>(∃ k:Nat,k<=n∧i=I k)∧Below w.heap.size w wr) (fun i _=>n - (intOf i).toNat)
 case atStart=>exact⟨⟨0,by omega,rfl⟩,Below.refl _ _⟩
 case round=>
  obtain⟨⟨k,Z,rfl⟩,hbel⟩:=hrel
  by_cases hlt:k<n
  . rcases ha with ha|⟨g,off,rfl,_,hg,hcell⟩
    . omega
    rcases hb with hb|⟨g',off',rfl,_,hg',hcell'⟩
    . omega
    obtain⟨p,hp⟩:∃ p,ps[k]? =some p:=⟨_,zx (by rw[HX.out];exact hlt)⟩
    obtain⟨e1,e2⟩:=xw ps k p hp;have i1:(0:Int)<=(k:Int):=by omega
    have i2:(k:Int)<(n:Int):=by omega
    have c1:=hcell (k*2) (by omega);have c2:=hcell (k*2+1) (by omega);have d1:=hcell' (k*2) (by omega);have d2:=hcell' (k*2+1) (by omega);rw[e1] at c1 d1;rw[e2] at c2 d2;replace c1:=(hbel.cell (p:=⟨g,off+k*2,none⟩) hg).trans c1;replace c2:=(hbel.cell (p:=(J g (off+(k*2+1)))) hg).trans c2;replace d1:=(hbel.cell (p:=⟨g',off'+k*2,none⟩) hg').trans d1;replace d2:=(hbel.cell (p:=(J g' (off'+(k*2+1)))) hg').trans d2;have c3:wr.cell? ⟨g,off+k*2+1,none⟩=zt p.2:=c2;have d3:wr.cell? ⟨g',off'+k*2+1,none⟩=zt p.2:=d2;have hcmp:=OP p.1 p.2 p.1 p.2;rw[show (!(decide ((p.1:Int)=(p.1:Int))&&decide ((p.2:Int)=(p.2:Int))))=false by simp] at hcmp;generalize (p.1:Int)=x at*;generalize (p.2:Int)=y at*;clear hp e1 e2 hcell hcell';go_wp2_with fail
    go_quiet (fail)
    go_wp2_with fail;exact⟨⟨⟨k+1,by omega,by go_num⟩,⟨hbel.os,hbel.tape,hbel.output,hbel.size,hbel.block⟩⟩,by simp[intOf];omega⟩
  . obtain rfl:k=n:=by omega
    go_wp2_with fail;go_ret;exact⟨rfl,hbel⟩
theorem tQ {w:World} {base:Nat} {e:TypeId} {size:Nat} {v:Value} {n:Nat} {xs:List Value} (h:w.ownsRow base e size v n xs):Ow.Row w base size v xs:=by
 obtain⟨a,cap,rfl,h1,h2,a',m,c,e0,h3,h4,h5,h6⟩:=Ow.bN h;simp only[Value.slice.injEq] at e0;obtain⟨rfl,rfl,rfl⟩:=e0;exact⟨a,n,cap,rfl,h3,h1,by unfold maxLen;omega,h6⟩
theorem Row.alloc' {w:World} {base size:Nat} {v:Value} {xs:List Value} (h:Ow.Row w base size v xs) (o:Obj):Ow.Row (w.alloc o) base size v xs:=h.below ((Below.refl _ w).alloc (zr _) o)
theorem Rc:(Tryz.prog.info? 152).map (fun i=>(i.zero,i.size,i.bytes))=some (some (.agg #[I 0,I 0]),2,16):=by kernel_rfl
theorem xx:∀ (l:List (Nat×Nat)),∀ u∈bJ l,u.oneCell'=true
 |[],u,h=>by cases h
 |p::l,u,h=>by
  have e:bJ (p::l)=I p.1::I p.2::bJ l:=rfl;rw[e] at h
  rcases List.mem_cons.1 h with rfl|h
  . rfl
  . rcases List.mem_cons.1 h with rfl|h
    . rfl
    . exact xx l u h
theorem BA {w E:World} {base:Nat} {v:Value} {n b:Nat} {xs:List Value} {cs:Array Value} {T:TypeId} (h:w.ownsRow base 152 2 v n xs) (hb:But b w E) (hc:w.heap[b]? =some (.cells cs T)) (hT:T≠152):E.ownsRow base 152 2 v n xs:=by
 rcases h.2 with ⟨e1,e2⟩|⟨g,cap',cur,hv,hb',hg,hx1,hx2,hx3,hx4⟩
 . exact⟨h.1,.inl ⟨e1,e2⟩⟩
 . have Wo:g≠b:=by
    rintro rfl;rw[hc] at hg;simp only[Option.some.injEq,Obj.cells.injEq] at hg;exact hT hg.2.1
   exact⟨h.1,.inr ⟨g,cap',cur,hv,hb',(hb.block g Wo).trans hg,hx1,hx2,hx3,hx4⟩⟩
theorem rX (w:World) (re rv ro rr:Int) (a:Option Addr) (n cap:Nat) (ps:List (Nat×Nat)) (hr:Ow.Row w 0 2 (.slice a n cap) (bJ ps)) (hn:ps.length=n) (hl:n<=1000000):
 zk 53 #[.agg #[I re,I rv,.slice a n cap,I ro,I rr]] w fun e E=>∃ a' c',e=.returned (.agg #[I re,I rv,.slice a' n c',I ro,I rr])∧E.ownsRow w.heap.size 152 2 (.slice a' n c') n (bJ ps)∧Below w.heap.size w E:=by
 obtain⟨i0,hi,hz0,hz1,hz2⟩:=info_parts Rc;have HR:=zH hr;have HM:=zH (zA hn hl);obtain⟨W,hW⟩:∃ W,W=(w.alloc (.cells #[I re,I rv,.slice a n cap,I ro,I rr] 46)).alloc (.cells #[I 0,I 0,.slice none 0 0,I 0,I 0] 46):=⟨_,rfl⟩
 have hWs:W.heap.size=w.heap.size+1+1:=by rw[hW];simp
 have Qf:Below w.heap.size w W:=by rw[hW];exact (((Below.refl _ _).alloc (zr _) _)).alloc (by simp) _
 have hW0:W.heap[w.heap.size]? =some (.cells #[I re,I rv,.slice a n cap,I ro,I rr] 46):=by rw[hW,heap_alloc_old _ _ (by simp),heap_alloc_new]
 have hW1:W.heap[w.heap.size+1]? =some (.cells #[I 0,I 0,.slice none 0 0,I 0,I 0] 46):=by
  have:=heap_alloc_new (w.alloc (.cells #[I re,I rv,.slice a n cap,I ro,I rr] 46)) (.cells #[I 0,I 0,.slice none 0 0,I 0,I 0] 46);rw[hW];simpa using this
 have HW:=zH (zA hWs (zA Qf (zA hW0 (zA hW1 (hr.below Qf)))));have HF:Hid (∀ v' w2,w2.ownsRow w.heap.size 152 2 v' n (bJ ps)->W.grownBy w2 none->∃ a' c',v'=.slice a' n c'∧w2.heap[w.heap.size]? =some (.cells #[I re,I rv,.slice a n cap,I ro,I rr] 46)∧w2.heap[w.heap.size+1]? =some (.cells #[I 0,I 0,.slice none 0 0,I 0,I 0] 46)∧w2.cell? (J w.heap.size 2)=some (.slice a n cap)∧w2.frozen? (J w.heap.size 2)=false∧Below w.heap.size w w2):=by
  intro v' w2 q1 q2;obtain⟨a',c',rfl,_⟩:=Ow.bN q1;have h0:w2.heap[w.heap.size]? =_:=(q2.block _ (by rw[hWs];omega) (by simp)).trans hW0;have h1:w2.heap[w.heap.size+1]? =_:=(q2.block _ (by rw[hWs];omega) (by simp)).trans hW1;refine⟨a',c',rfl,h0,h1,by simp[World.cell?,h0],by simp[World.frozen?,h0],⟨q2.os.trans Qf.os,q2.tape.trans Qf.tape,q2.output.trans Qf.output,gy Qf.size q2.size,fun b hb=>(q2.block b (by rw[hWs];omega) (by simp)).trans (Qf.block b hb)⟩⟩
 have Y0:W.cell? (J w.heap.size 2)=some (.slice a n cap):=by simp[World.cell?,hW0]
 clear hW0 hW1 Qf hr hn hl;go_enter Tryz.func53,Tryz.ntmps53;go_upto_region 1 with fail
 rw[<-hW];clear hW;go_upto_region 2 with (refine Ow.sZ W rfl (.const (.slice none 0 0)) (.tmp 4) 44 rfl w.heap.size 152 i0 _ 2 16 Tryz.underlying44 hi hz0 hz1 hz2 rfl (by decide) (.slice none 0 0) 0 [] rfl (World.ownsRow_nil _ _ _ _) 0 (.slice a n cap) (bJ ps) rfl HW.out.2.2.2.2 n (by rw[jZ,HM.out.1]) (xx ps) (by have:=HM.out.2;unfold maxLen;omega) (by have:=HM.out.2;omega) (by rw[HW.out.1];omega) ?_;intro v' w2 q1 q2;rw[List.nil_append,Nat.zero_add] at q1;obtain⟨a',c',rfl,f0,f1,f2,f3,f4⟩:=HF.out _ _ q1 q2;have HQ:=zH (zA q1 (zA f0 (zA f1 f4)));clear q1 q2 f0 f1 f4)
 generalize hw3:w2.setCell (J w.heap.size 2) (.slice a' n c')=w3 at*;obtain⟨q1,f0,f1,f4⟩:=HQ.out;have g0:w3.heap[w.heap.size]? =some (.cells #[I re,I rv,.slice a' n c',I ro,I rr] 46):=by rw[<-hw3];exact heap_setCell_same f0 2 _
 have g1:w3.heap[w.heap.size+1]? =some (.cells #[I 0,I 0,.slice none 0 0,I 0,I 0] 46):=by rw[<-hw3,Below.heap_setCell _ _ _ _ (by simp)];exact f1
 have gb:Below w.heap.size w w3:=by rw[<-hw3];exact⟨f4.os,f4.tape,f4.output,by simpa [World.setCell] using f4.size,fun b hb=>(Below.heap_setCell _ _ _ _ (by rintro rfl;simp at hb)).trans (f4.block b hb)⟩
 have go:w3.ownsRow w.heap.size 152 2 (.slice a' n c') n (bJ ps):=by
  rw[<-hw3];exact BA q1 (But.setCell w2 (J w.heap.size 2) _) f0 (by decide)
 have HG:=zH (zA g0 (zA (gM g1) (zA gb (zA go g1))));have y0:w3.cell? (J w.heap.size 0)=zt re:=by simp[World.cell?,g0]
 have y1:w3.cell? (J w.heap.size 1)=zt rv:=by simp[World.cell?,g0]
 have y2:w3.cell? (J w.heap.size 2)=some (.slice a' n c'):=by simp[World.cell?,g0]
 have y3:w3.cell? (J w.heap.size 3)=zt ro:=by simp[World.cell?,g0]
 have y4:w3.cell? (J w.heap.size 4)=zt rr:=by simp[World.cell?,g0]
 clear q1 f0 f1 f4 g0 g1 gb go HQ HF f2 f3 Y0;go_wp2_with (refine wpList_store_mid rfl 46 (.tmp 2) (.tmp 7) rfl (w.heap.size+1) 0 #[I re,I rv,.slice a' n c',I ro,I rr] rfl rfl HG.out.2.1 (by kernel_rfl) (by simp[Value.oneCell']) ?_;generalize hws:World.setCells _ _ _ _=ws);have hfin:=wW HG.out.2.2.2.2 (I re) (I rv) (.slice a' n c') (I ro) (I rr);have fQ:=But.setCells (w.heap.size+1) [I re,I rv,.slice a' n c',I ro,I rr] 0 w3;rw[show w3.setCells (w.heap.size+1) 0 [I re,I rv,.slice a' n c',I ro,I rr]=ws from hws] at fQ hfin;refine bodyPost_ret (results_cell_row rfl _ _ (w.heap.size+1) 46 #[I re,I rv,.slice a' n c',I ro,I rr] _ _ rfl hfin Tryz.underlying46 rfl (by kernel_rfl)) rfl ?_;exact⟨a',c',rfl,BA HG.out.2.2.2.1 fQ HG.out.2.2.2.2 (by decide),⟨fQ.os.trans HG.out.2.2.1.os,fQ.tape.trans HG.out.2.2.1.tape,fQ.output.trans HG.out.2.2.1.output,by rw[fQ.size];exact HG.out.2.2.1.size,fun b hb=>(fQ.block b (by omega)).trans (HG.out.2.2.1.block b hb)⟩⟩
theorem vL {L:dE} {w:World} {base:Nat} {a:Option Addr} {n c:Nat} {xs:List Value} (h:w.ownsRow base 152 2 (.slice a n c) n xs) (hL:∀ b,base<=b->b<w.heap.size->L b=none):kW L w (.slice a n c) xs:=by
 obtain⟨a',c',e,h1,h2,h3⟩:=Ow.bN h;obtain⟨rfl,rfl⟩:a=a'∧c=c':=by simpa using e
 refine⟨⟨a,n,c,rfl,h.1,h1,by unfold maxLen;omega,?_⟩,?_⟩
 . rcases h.2 with ⟨h0,hn⟩|⟨g,cap',cur,hv,hb,hg,hnc,hcm,hcs,htake⟩
   . exact .inl (by first|exact h0|omega)
   . obtain⟨rfl,rfl⟩:a=za g 0∧c=cap':=by simpa using hv
     refine .inr ⟨g,0,rfl,hL g (h.lt g rfl).1 (h.lt g rfl).2,(h.lt g rfl).2,fun j hj=>?_⟩;rw[Nat.zero_add];exact h.cellAt j hj
 . intro g off n' cap hv
   rcases h.2 with ⟨h0,hn⟩|⟨g',cap',cur,hv',hb,hg,hnc,hcm,hcs,htake⟩
   . obtain⟨_,rfl,_⟩:a=za g off∧n=n'∧c=cap:=by simpa using hv
     exact .inl (by first|exact h0|omega)
   . rw[hv'] at hv
     simp only[Value.slice.injEq,Option.some.injEq,Addr.mk.injEq,and_true] at hv;obtain⟨⟨rfl,_⟩,_⟩:=hv;exact .inr ⟨cur,hg⟩
theorem lY (a b:Value) (n:Nat):(madeCells #[a,b] (n*2)).toList=two (List.replicate n (a,b)):=by
 apply List.ext_getElem?
 intro i;have e1:(madeCells #[a,b] (n*2)).toList[i]? =if i<n*2 then some (#[a,b][i % 2]!) else none:=by
  by_cases h:i<n*2
  . rw[aV h];simp[madeCells,h]
  . rw[aR h,List.getElem?_eq_none_iff];simp[madeCells];omega
 rw[e1]
 by_cases h:i<n*2
 . rw[aV h]
   have hr:(List.replicate n (a,b))[i / 2]? =some (a,b):=by rw[List.getElem?_replicate,aV (by omega)]
   obtain⟨h0,h1⟩:=Ba (List.replicate n (a,b)) (i / 2) hr
   rcases Nat.mod_two_eq_zero_or_one i with hm|hm
   . rw[show 2*(i / 2)=i by omega] at h0
     rw[h0,hm];rfl
   . rw[show 2*(i / 2)+1=i by omega] at h1
     rw[h1,hm];rfl
 . rw[aR h]
   symm
   rw[List.getElem?_eq_none_iff,Fa];simp;omega
theorem Uj:(Tryz.prog.info? 186).map (fun i=>(i.zero,i.size,i.bytes))=some (some (.agg #[zu 0]),1,8):=by kernel_rfl
theorem Uk:(Tryz.prog.info? 190).map (fun i=>(i.zero,i.size,i.bytes))=some (some (.agg #[I 0,I 0]),2,16):=by kernel_rfl
theorem Ul:(Tryz.prog.info? 243).map (fun i=>(i.zero,i.size,i.bytes))=some (some (.agg #[I 0,.bool false]),2,16):=by kernel_rfl
theorem FO (n:Nat) (h:n<=100000) (w:World):(Instr.makeSlice 179 (I n) (I n)).run Tryz.prog w=.ok (.slice (some (J w.heap.size 0)) n n) (w.alloc (.cells (madeCells #[zu 0] n) 186)):=by
 obtain⟨i,hi,hz0,hz1,hz2⟩:=info_parts Uj;have:=run_make (P:=Tryz.prog) w 179 186 i _ Tryz.underlying179 hi hz0 .i64 .i64 n n (by omega) (Int.le_refl _) (by rw[hz2];omega) (by omega);rw[hz1] at this
 simpa [Value.cells] using this
theorem Jp (n:Nat) (h:n<=100000) (w:World):(Instr.makeSlice 206 (I n) (I n)).run Tryz.prog w=.ok (.slice (some (J w.heap.size 0)) n n) (w.alloc (.cells (madeCells #[I 0,.bool false] (n*2)) 243)):=by
 obtain⟨i,hi,hz0,hz1,hz2⟩:=info_parts Ul;have:=run_make (P:=Tryz.prog) w 206 243 i _ Tryz.underlying206 hi hz0 .i64 .i64 n n (by omega) (Int.le_refl _) (by rw[hz2];omega) (by omega);rw[hz1] at this
 simpa [Value.cells] using this
theorem DF (n:Nat) (h:n<=100000) (w:World):(Instr.makeSlice 103 (I n) (I n)).run Tryz.prog w=.ok (.slice (some (J w.heap.size 0)) n n) (w.alloc (.cells (madeCells #[I 0,I 0] (n*2)) 190)):=by
 obtain⟨i,hi,hz0,hz1,hz2⟩:=info_parts Uk;have:=run_make (P:=Tryz.prog) w 103 190 i _ Tryz.underlying103 hi hz0 .i64 .i64 n n (by omega) (Int.le_refl _) (by rw[hz2];omega) (by omega);rw[hz1] at this
 simpa [Value.cells] using this
theorem Lr (n:Nat) (h1:1<=n) (h2:n<=100000) (w:World):zk 77 #[I n] w fun e E=>e=.returned (.tuple #[.pointer (some ⟨w.heap.size+1,0,none⟩),I 0])∧E=(w.alloc (.cells (madeCells #[zu 0] n) 186)).alloc (.cells #[.slice (some (J w.heap.size 0)) n n,I 0] 184):=by
 have hm:=fun w=>FO n h2 w
 have d1:decide ((n:Int)<1)=false:=by simp;omega
 have d2:((n:Int)<1)=False:=by simp;omega
 have d3:decide ((100000:Int)<(n:Int))=false:=by simp;omega
 have d4:((100000:Int)<(n:Int))=False:=by simp;omega
 have d5:(n<1)=False:=by simp;omega
 have d6:(100000<n)=False:=by simp;omega
 have d7:(n=0)=False:=by simp;omega
 clear h1 h2;go_enter Tryz.func77,Tryz.ntmps77;go_wp2
 go_ret2
 exact⟨rfl,rfl⟩
theorem OQ (n:Nat) (h1:1<=n) (h2:n<=4096) (w:World):zk 78 #[I n,I 65535] w fun e E=>e=.returned (.tuple #[.pointer (some ⟨w.heap.size+1,0,none⟩),I 0])∧E=(w.alloc (.cells (madeCells #[I 0,.bool false] (n*2)) 243)).alloc (.cells #[.slice (some (J w.heap.size 0)) n n,I 65535,.slice none 0 0,I 0,.int .u32 0,.int .i32 0,.int .u32 0] 208):=by
 have hm:=fun w=>Jp n (by omega) w
 have d1:decide ((n:Int)<1)=false:=by simp;omega
 have d2:((n:Int)<1)=False:=by simp;omega
 have d3:decide ((4096:Int)<(n:Int))=false:=by simp;omega
 have d4:((4096:Int)<(n:Int))=False:=by simp;omega
 have d5:(n<1)=False:=by simp;omega
 have d6:(4096<n)=False:=by simp;omega
 have d7:(n=0)=False:=by simp;omega
 clear h1 h2;go_enter Tryz.func78,Tryz.ntmps78;go_wp2
 go_ret2
 exact⟨rfl,rfl⟩
theorem Re (n l:Nat) (h1:1<=n) (h2:n<=256) (h3:1<=l) (h4:l<=1099511627776) (w:World):zk 76 #[.agg #[I n,zu l]] w fun e E=>e=.returned (.bool true)∧Below w.heap.size w E:=by
 have hb:Below w.heap.size w (w.alloc (.cells #[I n,zu l] 66)):=(Below.refl _ _).alloc (zr _) _;have HB:=zH hb;have d1:decide ((1:Int)<=(n:Int))=true:=by simp;omega
 have d2:decide ((n:Int)<=256)=true:=by simp;omega
 have d3:decide ((1:Int)<=(l:Int))=true:=by simp;omega
 have d4:decide ((l:Int)<=1099511627776)=true:=by simp;omega
 have e1:((1:Int)<=(n:Int))=True:=by simp;omega
 have e2:((n:Int)<=256)=True:=by simp;omega
 have e3:((1:Int)<=(l:Int))=True:=by simp;omega
 have e4:((l:Int)<=1099511627776)=True:=by simp;omega
 have g1:(1<=n)=True:=by simp;omega
 have g2:(n<=256)=True:=by simp;omega
 have g3:(1<=l)=True:=by simp;omega
 have g5:(0<n)=True:=by simp;omega
 have g6:(0<l)=True:=by simp;omega
 clear h1 h2 h3 h4 hb;go_enter Tryz.func76,Tryz.ntmps76;go_wp2;go_ret;exact⟨rfl,HB.out⟩
variable {A:au} {D:St} {w:World}
theorem Jq:(Tryz.prog.info? 203).map (fun i=>(i.zero,i.size,i.bytes))=some (some (.agg #[zu 0,I 0]),2,16):=by kernel_rfl
theorem Jr (l:List (Nat×Nat)):(nu l).length=2*l.length:=by
 unfold nu
 induction l with
 |nil=>rfl
 |cons a l ih=>rw[List.flatMap_cons,jR,ih];simp;omega
theorem DI (l:List (Nat×Nat)) (x:Nat×Nat):nu (l++[x])=nu l++[u64 x.1,i64 x.2]:=by simp[nu]
def Ls (A:au) (D:St) (w:World) (x:Nat×Nat) (v:Value) (E:World):Prop:=
 ∃ L hc g cs av cap,v=.slice (some av) (D.cut.length+1) cap∧aC {A with L:=L,hcut:=hc,fP:=g,dV:=cs} D E∧Grow A.L w L E∧iW {A with L:=L,hcut:=hc,fP:=g,dV:=cs,iV:=v} (D.cut++[x])
theorem Ip {A:au} {D:St} {w E:World} {v':Value} {x:Nat×Nat} (hR:aC A D w) (h2:E.ownsRow w.heap.size 203 2 v' (D.cut.length+1) (nu (D.cut++[x]))) (h3:w.grownBy E none):Ls A D w x v' E:=by
 rcases h2.2 with ⟨_,h0⟩|⟨g,cap,cur,rfl,hbg,hgg,hnc,hcm,hcs,htk⟩
 . omega
 have hb:Below w.heap.size w E:=⟨h3.os,h3.tape,h3.output,h3.size,fun k Z=>h3.block k Z (by simp)⟩
 have hlt:g<E.heap.size:=fA hgg;have hR':=hR.below hb;have hg:Grow A.L w (kD A.L g .cut) E:=(Grow.below hb).kD hbg _;have Y1:A.L g=none:=hR.mem.fresh g hbg;refine⟨kD A.L g .cut,true,g,cur.toList,(J g 0),cap,rfl,⟨?_,hR.ev.grow hg,hR.sl,hR.nw,hR.nt,hR.nv,hR.n8,hR.nc⟩,hg,.inr ⟨rfl,0,cap,by simp,?_,?_,?_,?_⟩⟩
 . refine (hR'.mem.Cy .cut Y1 (.obj g cur.toList 203) ⟨kU _ _ _,by simpa using hgg⟩ hlt).of_eq fun q=>?_
   cases q<;>rfl
 . simpa using hnc
 . simpa using hcm
 . show 2*(0+cap)<=cur.toList.length
   simp[hcs];omega
 . show (cur.toList.drop (2*0)).take (2*(D.cut++[x]).length)=_
   rw[<-htk];simp;congr 1;omega
theorem Js (hR:aC A D w) {k cap:Nat} (hh:A.hcut=true) (Z:2*(k+cap)<=A.dV.length) (hn:D.cut.length<=cap) (ht:(A.dV.drop (2*k)).take (2*D.cut.length)=nu D.cut):
 A.L A.fP=some .cut∧w.heap[A.fP]? =some (.cells A.dV.toArray 203)∧(∀ j u,(nu D.cut)[j]? =some u->w.cell? ⟨A.fP,2*k+j,none⟩=some u):=by
 have he:bq A D .cut=.obj A.fP A.dV 203:=by simp only[bq,hh,cond_true]
 have h:=hR.mem.all .cut;rw[he] at h;refine⟨h.1,h.2,fun j u hu=>?_⟩;refine hR.mem.cell he (2*k+j) ?_;rw[<-ht,List.getElem?_take] at hu
 split at hu
 . rwa [List.getElem?_drop] at hu
 . cases hu
theorem OT (hR:aC A D w) (hC:iW A D.cut) (hlen:D.cut.length<1000000) (x:Nat×Nat) (ty:TypeId) (ad:Addr) (h0:w.cell? (ad.add 0)=some (u64 x.1)) (h1:w.cell? (ad.add 1)=some (i64 x.2)):
 ∃ v' E,(Builtin.append_ #[107,107] ty #[A.iV,.slice (some ad) 1 1]).run Tryz.prog w=.ok v' E∧Ls A D w x v' E:=by
 obtain⟨ii,hii,hz0,hz1,hz2⟩:=info_parts Jq;have hnews:∀ j u,[u64 x.1,i64 x.2][j]? =some u->w.cell? (ad.add j)=some u:=by
  intro j u hu
  match j,hu with
  |0,hu=>obtain rfl:=zj hu;exact h0
  |1,hu=>obtain rfl:=zj hu;exact h1
  |j+2,hu=>simp at hu
 have hone:∀ u∈[u64 x.1,i64 x.2],u.oneCell'=true:=by intro u hu;simp at hu;rcases hu with rfl|rfl<;>rfl
 rcases hC with ⟨-,hv,hl⟩|⟨hh,k,cap,hv,hn,hm,Z,ht⟩
 . obtain⟨v',E,hr,h2,h3,_⟩:=run_append_own (P:=Tryz.prog) w w.heap.size 107 ty 203 ii _ 2 16 Tryz.underlying107 hii hz0 hz1 hz2 rfl (by decide) (.slice none 0 0) 0 [] (World.ownsRow_nil _ _ _ _) ad 1 1 [u64 x.1,i64 x.2] rfl hnews hone (by unfold maxLen;omega) (by omega) (zr _)
   rw[hv];refine⟨v',E,hr,Ip hR ?_ h3⟩;rw[hl];exact h2
 . obtain⟨e1,e2,e3⟩:=Js hR hh Z hn ht
   have hadd:∀ j,(⟨A.fP,2*k,none⟩:Addr).add j=⟨A.fP,2*k+j,none⟩:=fun j=>Addr.add_lit _ _ _
   rw[hv]
   by_cases hroom:D.cut.length+1<=cap
   . have hr:=run_append_room_cells (P:=Tryz.prog) w 107 ty 203 ii Tryz.underlying107 hii A.fP (2*k) D.cut.length cap ad 1 1 [u64 x.1,i64 x.2] (by rw[hz1];rfl) hnews hone hroom ?_ ?_
     . rw[hz1] at hr
       refine⟨_,_,hr,A.L,A.hcut,A.fP,(A.dV.set (2*k+D.cut.length*2) (u64 x.1)).set (2*k+D.cut.length*2+1) (i64 x.2),⟨A.fP,2*k,none⟩,cap,rfl,?_,?_,.inr ⟨hh,k,cap,?_,?_,hm,?_,?_⟩⟩
       . have he:bq A D .cut=.obj A.fP A.dV 203:=by simp only[bq,hh,cond_true]
         have g1:=hR.mem.di he (2*k+D.cut.length*2) (u64 x.1);have m1:=hR.mem.put .cut he (2*k+D.cut.length*2) (u64 x.1);have g2:=m1.di (gF _ _ _) (2*k+D.cut.length*2+1) (i64 x.2);have m2:=m1.put .cut (gF _ _ _) (2*k+D.cut.length*2+1) (i64 x.2);refine⟨m2.of_eq fun q=>?_,hR.ev.grow (g1.trans g2),hR.sl,hR.nw,hR.nt,hR.nv,hR.n8,hR.nc⟩
         cases q<;>first|rfl|(simp only[bq,hh,cond_true];rfl)
       . have he:bq A D .cut=.obj A.fP A.dV 203:=by simp only[bq,hh,cond_true]
         have g1:=hR.mem.di he (2*k+D.cut.length*2) (u64 x.1);have m1:=hR.mem.put .cut he (2*k+D.cut.length*2) (u64 x.1);exact g1.trans (m1.di (gF _ _ _) (2*k+D.cut.length*2+1) (i64 x.2))
       . simp
       . simpa using hroom
       . show _<=((A.dV.set _ _).set _ _).length
         simpa using Z
       . show (((A.dV.set _ _).set _ _).drop (2*k)).take _=_
         rw[DI,<-ht];apply List.ext_getElem?
         intro j;simp only[List.getElem?_take,List.getElem?_drop,List.getElem?_append,List.length_take,List.length_drop,List.getElem?_set,rz,jR,List.length_cons,List.length_nil];have hmin:min (2*D.cut.length) (A.dV.length - 2*k)=2*D.cut.length:=by omega
         rw[hmin]
         by_cases hj:j<2*D.cut.length
         . rw[aV (by omega),aR (by omega),aR (by omega),aV hj,aV hj]
         . rw[aR hj]
           by_cases hj0:j=2*D.cut.length
           . subst hj0
             rw[aV (by omega),aR (by omega),aV (by omega),aV (by omega),Nat.sub_self];rfl
           . by_cases hj1:j=2*D.cut.length+1
             . subst hj1
               rw[aV (by omega),aV (by omega),aV (by omega),show 2*D.cut.length+1 - 2*D.cut.length=1 by omega];rfl
             . rw[aR (by omega),Cx (by simp;omega)]
     . intro j hj
       rw[hz1];have hlt:2*k+D.cut.length*2+j<A.dV.length:=by simp at hj;omega
       rw[cell_of_row w A.fP _ _ _ _ e2];simp[hlt]
     . intro j hj
       have he:bq A D .cut=.obj A.fP A.dV 203:=by simp only[bq,hh,cond_true]
       exact hR.mem.frozen he _
   . obtain⟨v',E,hr,h2,h3⟩:=run_append_arg_grows (P:=Tryz.prog) w 107 ty 203 ii _ 2 16 Tryz.underlying107 hii hz0 hz1 hz2 rfl (by decide) ⟨A.fP,2*k,none⟩ D.cut.length cap (nu D.cut) (by rw[Jr];omega) (fun j u hu=>by rw[hadd];exact e3 j u hu) ad 1 1 [u64 x.1,i64 x.2] rfl hnews (by omega) (by unfold maxLen;omega) (by omega)
     exact⟨v',E,hr,Ip hR (by rw[DI];exact h2) h3⟩
theorem Iq {A:au} {D:St} {o:Oper} {a:Act} {K:Act->World->Prop} {Q:Exit->Act->World->Prop} (w W:World) (s y:Operand)
 (ho:o.op=.call {callee:=.builtin .append,args:=#[s,y],argTypes:=#[107,107]})
 (hR:aC A D w) (hC:iW A D.cut) (hlen:D.cut.length<1000000) (v0:Value) (hv0:v0=A.iV) (hs:a.eval s=v0) (x:Nat×Nat) (hW:W=w.alloc (.cells #[zu x.1,I x.2] 203)) (hx:a.eval y=.slice (some (J w.heap.size 0)) 1 1)
 (h:∀ av n' cap' E,Ls A D w x (.slice av n' cap') E->K (a.put o.dst (.slice av n' cap')) E):o.wp Tryz.prog a W K Q:=by
 subst hW;have hR':=hR.alloc (.cells #[zu x.1,I x.2] 203);obtain⟨v',E,hr,L,hc,g,cs,av,cap,rfl,r',g',c'⟩:=OT hR' hC hlen x o.type (J w.heap.size 0) (Ow.iw w [zu x.1,I x.2] _ _ rfl 0 _ rfl) (Ow.iw w [zu x.1,I x.2] _ _ rfl 1 _ rfl);unfold Oper.wp execOp;simp only[ho,resolve,invoke,builtin,Sem.run_bind,Sem.run_pure,Result.andThen_ok,List.map_toArray,List.map_cons,List.map_nil,hs,hx,hv0,hr];exact h _ _ _ E ⟨L,hc,g,cs,av,cap,rfl,r',(Grow.alloc _ _ _).trans g',c'⟩
theorem iW.tail {A:au} {x:Nat×Nat} {l:List (Nat×Nat)} (h:iW A (x::l)):∃ k cap,A.hcut=true∧A.iV=.slice (some ⟨A.fP,2*k,none⟩) (l.length+1) cap∧l.length+1<=cap∧cap<=maxLen∧2*(k+cap)<=A.dV.length
 ∧iW {A with iV:=.slice (if cap=1 then some ⟨A.fP,2*k,none⟩ else some ⟨A.fP,2*k+2,none⟩) l.length (cap - 1)} l∧A.dV[2*k]? =some (u64 x.1)∧A.dV[2*k+1]? =some (i64 x.2):=by
 rcases h with ⟨-,-,hl⟩|⟨hh,k,cap,hv,hn,hm,Z,ht⟩
 . cases hl
 have hc0:A.dV[2*k]? =some (u64 x.1)∧A.dV[2*k+1]? =some (i64 x.2):=by
  have e:∀ j,j<2->A.dV[2*k+j]? =(nu (x::l))[j]? :=by
   intro j hj;rw[<-ht,List.getElem?_take,aV (by simp;omega),List.getElem?_drop]
  exact⟨e 0 (by omega),e 1 (by omega)⟩
 have hn':l.length+1<=cap:=hn;refine⟨k,cap,hh,hv,hn,by omega,Z,?_,hc0.1,hc0.2⟩
 by_cases h1:cap=1
 . have hl:l=[]:=List.eq_nil_of_length_eq_zero (by omega)
   subst hl;subst h1;exact .inr ⟨hh,k,0,rfl,zz _,by omega,by show 2*(k+0)<=A.dV.length;omega,by simp[nu]⟩
 . refine .inr ⟨hh,k+1,cap - 1,by simp[h1],by omega,by omega,by show 2*(k+1+(cap - 1))<=A.dV.length;omega,?_⟩
   show (A.dV.drop (2*(k+1))).take (2*l.length)=nu l;have e:nu l=(nu (x::l)).drop 2:=rfl;rw[e,<-ht,List.drop_take,List.drop_drop];simp
   congr 1
end Go.Proofs.YthicolbbmjfkfaaGreat.Em
namespace Go.Proofs.YthicolbbmjfkfaaGreat.Em
open Go.ChangeShapes Go.WideShapes Go.ChangeAt Go.RowKit Go.Deep
structure Pk where
 kd:Int
 s:Int
 l:Int
 k:Int
 F:Int
 hi:Int
 v:Int
 deriving Inhabited
def ru (p:Pk):List Value:=[I p.kd,I p.s,I p.l,I p.k,I p.F,I p.hi,I p.v]
def Ye (p:Pk):Value:=.agg (ru p).toArray
def Lt (p:Pk):Prop:=∀ z∈[p.kd,p.s,p.l,p.k,p.F,p.hi,p.v],-9223372036854775808<=z∧z<9223372036854775808
def qD (l:List Pk):List Value:=l.flatMap ru
theorem tT (l:List Pk):(qD l).length=l.length*7:=by
 induction l with
 |nil=>rfl
 |cons a l ih=>show (ru a++qD l).length=_;rw[jR,ih,List.length_cons];show 7+_=_;omega
section
variable {zi:Type} {enc:TypeId×Value->zi} {w:World} {base:Nat} {spare:Nat->Bool} {held:Bool}
theorem nC {fuel:Nat} {c:Value} {x:DataW zi×List MemPlace} (h:DataW.trod enc Tryz.prog w base spare held fuel 3 [c]=some x):∃ a,c=I a∧-9223372036854775808<=a∧a<9223372036854775808:=by
 obtain⟨a,e,_,hw⟩:=DataW.trod_int Tryz.underlying3 h;simp at e;subst e;have:=bounds_i64 hw;exact⟨a,rfl,by omega,by omega⟩
theorem OU {fuel:Nat} {c0 c1 c2 c3:Value} {x:DataW zi×List MemPlace} (h:DataW.trod enc Tryz.prog w base spare held fuel 27 [c0,c1,c2,c3]=some x):
 ∃ a0 a1 a2 a3,c0=I a0∧c1=I a1∧c2=I a2∧c3=I a3∧∀ z∈[a0,a1,a2,a3],-9223372036854775808<=z∧z<9223372036854775808:=by
 have hi:Tryz.prog.cellsOf 3=1:=by kernel_rfl
 obtain⟨xs,n,_,_,_,hl,hf⟩:=DataW.trod_struct Tryz.underlying27 h;obtain⟨y,hy⟩:∃ y,xs=y:=⟨_,rfl⟩
 match xs,hl with
 |[y0,y1,y2,y3],_=>
  have f0:DataW.trod enc Tryz.prog w base spare held n 3 (([c0,c1,c2,c3].drop 0).take (Tryz.prog.cellsOf 3))=some y0:=hf 0 _ rfl;rw[hi] at f0;have f1:DataW.trod enc Tryz.prog w base spare held n 3 (([c0,c1,c2,c3].drop 1).take (Tryz.prog.cellsOf 3))=some y1:=hf 1 _ rfl;rw[hi] at f1;have f2:DataW.trod enc Tryz.prog w base spare held n 3 (([c0,c1,c2,c3].drop 2).take (Tryz.prog.cellsOf 3))=some y2:=hf 2 _ rfl;rw[hi] at f2;have f3:DataW.trod enc Tryz.prog w base spare held n 3 (([c0,c1,c2,c3].drop 3).take (Tryz.prog.cellsOf 3))=some y3:=hf 3 _ rfl;rw[hi] at f3;obtain⟨a0,rfl,w0⟩:=nC f0;obtain⟨a1,rfl,Y⟩:=nC f1;obtain⟨a2,rfl,w2⟩:=nC f2;obtain⟨a3,rfl,w3⟩:=nC f3;refine⟨a0,a1,a2,a3,rfl,rfl,rfl,rfl,?_⟩;intro z hz;simp at hz
  rcases hz with rfl|rfl|rfl|rfl<;>assumption
theorem Jt {fuel:Nat} {cs:List Value} {x:DataW zi×List MemPlace} (h:DataW.trod enc Tryz.prog w base spare held fuel 59 cs=some x):∃ e:Pk,cs=ru e∧Lt e:=by
 have hi:Tryz.prog.cellsOf 3=1:=by kernel_rfl
 have ho:Tryz.prog.cellsOf 27=4:=by kernel_rfl
 have he:Tryz.prog.cellsOf 59=7:=by kernel_rfl
 obtain⟨xs,n,_,_,hc,hl,hf⟩:=DataW.trod_struct Tryz.underlying59 h;rw[he] at hc
 match cs,hc with
 |[c0,c1,c2,c3,c4,c5,c6],_=>
  match xs,hl with
  |[y0,y1,y2,y3],_=>
   have f0:DataW.trod enc Tryz.prog w base spare held n 3 (([c0,c1,c2,c3,c4,c5,c6].drop 0).take (Tryz.prog.cellsOf 3))=some y0:=hf 0 _ rfl;rw[hi] at f0;have f1:DataW.trod enc Tryz.prog w base spare held n 3 (([c0,c1,c2,c3,c4,c5,c6].drop 1).take (Tryz.prog.cellsOf 3))=some y1:=hf 1 _ rfl;rw[hi] at f1;have f2:DataW.trod enc Tryz.prog w base spare held n 3 (([c0,c1,c2,c3,c4,c5,c6].drop 2).take (Tryz.prog.cellsOf 3))=some y2:=hf 2 _ rfl;rw[hi] at f2;have f3:DataW.trod enc Tryz.prog w base spare held n 27 (([c0,c1,c2,c3,c4,c5,c6].drop 3).take (Tryz.prog.cellsOf 27))=some y3:=hf 3 _ rfl;rw[ho] at f3;obtain⟨a0,rfl,w0⟩:=nC f0;obtain⟨a1,rfl,Y⟩:=nC f1;obtain⟨a2,rfl,w2⟩:=nC f2;obtain⟨a3,a4,a5,a6,rfl,rfl,rfl,rfl,w3⟩:=OU f3;refine⟨⟨a0,a1,a2,a3,a4,a5,a6⟩,rfl,?_⟩;intro z hz;simp at hz
   rcases hz with rfl|rfl|rfl|rfl|rfl|rfl|rfl
   . exact w0
   . exact Y
   . exact w2
   . exact w3 _ (by simp)
   . exact w3 _ (by simp)
   . exact w3 _ (by simp)
   . exact w3 _ (by simp)
theorem Ju (f:Nat->Pk) (n:Nat):∀ i,i<n->∀ j,j<7->(qD ((List.range n).map f))[i*7+j]? =(ru (f i))[j]? :=by
 intro i hi j hj;have F:∀ (l:List Pk) (i:Nat) (e:Pk),l[i]? =some e->(qD l)[i*7+j]? =(ru e)[j]? :=by
  intro l
  induction l with
  |nil=>intro i e h;simp at h
  |cons e0 l ih=>
   intro i e h;show (ru e0++qD l)[i*7+j]? =_
   cases i with
   |zero=>
    simp at h;subst h;rw[List.getElem?_append_left (by show 0*7+j<7;omega)];simp
   |succ i=>
    rw[Qx (by show 7<=_;omega)];rw[show (i+1)*7+j - (ru e0).length=i*7+j from by show _ - 7=_;omega];exact ih i e (by simpa using h)
 exact F _ i (f i) (by simp[hi])
theorem FP {r:Reach} {b0:Nat} {v:Value} {d:DataW zi} {p:List MemPlace} (hv:Value.okWide Tryz.prog w r b0 56 v) (h:DataW.Trod enc Tryz.prog w base spare held 56 v d p):
 ∃ es:List Pk,Ow.Row w 0 7 v (qD es)∧∀ e∈es,Lt e:=by
 have Y2:Tryz.prog.cellsOf 59=7:=by kernel_rfl
 obtain⟨a,len,cap,rfl⟩:=okWide_slice Tryz.underlying56 hv;obtain⟨fuel,hf⟩:=h
 rcases open_slice Tryz.underlying56 hf with ⟨h0,_⟩|⟨ad,len',cap',m,n,zo,Pl,hcs,hb,hl,hm,hmm,_,hi⟩
 . simp[Value.cells] at h0
   obtain⟨rfl,rfl,rfl⟩:=h0;exact⟨[],⟨none,0,0,rfl,rfl,by omega,by unfold maxLen;omega,.inl rfl⟩,by simp⟩
 . simp[Value.cells] at hcs
   obtain⟨rfl,rfl,rfl⟩:=hcs;have hle:len<=m:=by rw[hmm];split<;>omega
   have hex:∀ i,∃ e:Pk,i<len->(∀ j,j<7->w.cell? (ad.add (i*7+j))=(ru e)[j]?)∧Lt e:=by
    intro i
    by_cases hil:i<len
    . obtain⟨cs',hcells,htr⟩:=hi i (by omega)
      rw[Y2] at hcells;obtain⟨e,rfl,he⟩:=Jt htr;obtain⟨_,_,hat⟩:=World.cells?_some hcells;refine⟨e,fun _=>⟨fun j hj=>?_,he⟩⟩;rw[<-add_add];exact hat j hj
    . exact⟨(default:Pk),fun h=>absurd h hil⟩
   obtain⟨f,hf'⟩:=Classical.axiomOfChoice hex;refine⟨(List.range len).map f,⟨some ad,len,cap,rfl,by rw[tT];simp,hl,hm,?_⟩,?_⟩
   . by_cases h0:len=0
     . exact .inl h0
     . right
       obtain⟨b,off,spot⟩:=ad;have hc0:=(hf' 0 (by omega)).1 0 (by omega);have hcell0:w.cell? ((⟨b,off,spot⟩:Addr).add (0*7+0))=some (I (f 0).kd):=hc0;have hspot:spot=none:=by simpa [Addr.add] using World.cell?_spot hcell0
       subst hspot;have hadd:∀ i,((J b off):Addr).add i=(J b (off+i)):=by
        intro i;unfold Addr.add;split
        . rename_i h;subst h;rfl
        . rfl
       refine⟨b,off,rfl,by omega,World.block_lt_of_cell? w (J b off) (by simpa [Addr.add] using hcell0),fun j hj=>?_⟩;have hd:j=(j / 7)*7+j % 7:=by omega
       rw[<-hadd j,hd,Ju f len (j / 7) (by omega) (j % 7) (by omega)];exact (hf' (j / 7) (by omega)).1 (j % 7) (by omega)
   . intro e he
     rw[List.mem_map] at he;obtain⟨i,hi',rfl⟩:=he;exact (hf' i (by simpa using hi')).2
end
end Go.Proofs.YthicolbbmjfkfaaGreat.Em
namespace Go.Proofs.YthicolbbmjfkfaaGreat.bR
open Go.ChangeShapes Go.WideShapes Go.ChangeAt Go.RowKit
theorem KJ:(Tryz.prog.info? 71).map (fun i=>(i.zero,i.size,i.bytes))=some (some (.agg #[.int .i64 0,.int .i64 0,.int .i64 0,.int .i64 0,.int .i64 0,.int .i64 0,.int .i64 0]),7,56):=by kernel_rfl
theorem xy {ops:Array Oper} {rest:List Oper} {o:Oper} {a:Act} {Q:Exit->Act->World->Prop} (w:World) (hgd:o.guard=none) (s x:Operand)
 (ho:o.op=.call {callee:=.builtin .append,args:=#[s,x],argTypes:=#[70,70]})
 (base:Nat) (v:Value) (n:Nat) (xs:List Value) (hs:a.eval s=v) (aU:w.ownsRow base 71 7 v n xs)
 (ad:Addr) (c:Nat) (news:List Value) (hx:a.eval x=.slice (some ad) 1 c) (hl:news.length=7) (hnews:∀ j u,news[j]? =some u->w.cell? (ad.add j)=some u) (h1:∀ u∈news,u.oneCell'=true)
 (hn:n<1000000) (hbase:base<=w.heap.size)
 (h:∀ v' E,E.ownsRow base 71 7 v' (n+1) (xs++news)->w.grownBy E v.ownBlock->wpList Tryz.prog ops Q rest (a.put o.dst v') E):wpList Tryz.prog ops Q (o::rest) a w:=by
 obtain⟨i0,hi,hz0,hz1,hz2⟩:=info_parts KJ;exact wpList_append_own w hgd s x _ ho base _ i0 _ 7 56 Tryz.underlying70 hi hz0 hz1 hz2 rfl (by decide) v n xs hs aU ad 1 c news hx (by rw[hl]) hnews h1 (by unfold maxLen;omega) (by omega) hbase (fun v' E h2 h3 _=>h v' E h2 h3)
theorem uM (e:En):∀ u∈cellsE e,u.oneCell'=true:=by
 intro u hu;simp[cellsE] at hu;rcases hu with rfl|rfl|rfl|rfl|rfl|rfl|rfl<;>rfl
theorem xz (a:Option Addr) (n cap:Nat) (h:n<=cap) (hm:cap<=9223372036854775807) (w:World):
 Calls Tryz.prog 92 #[.slice a n cap] w fun e E=>e=.returned (.slice a n n)∧w=E:=by
 have h1:(n:Int)<=(cap:Int):=by omega
 go_enter Tryz.func92,Tryz.ntmps92;go_wp2;go_ret;exact⟨rfl,rfl⟩
def Bytes (w:World) (a:Option Addr) (len cap:Nat) (bs:List Int):Prop:=
 bs.length=len∧len<=cap∧cap<=9223372036854775807∧(len=0∨∃ B off,a=some ⟨B,off,none⟩∧B<w.heap.size∧∀ i,i<len->w.cell? ⟨B,off+i,none⟩=some (.int .u8 (bs.getD i 0))∧0<=bs.getD i 0∧bs.getD i 0<256)
theorem Bytes.below {w Y:World} {a:Option Addr} {len cap:Nat} {bs:List Int} (h:Bytes w a len cap bs) (hb:Below w.heap.size w Y):Bytes Y a len cap bs:=by
 obtain⟨h1,h2,h3,h4⟩:=h;refine⟨h1,h2,h3,?_⟩
 rcases h4 with h4|⟨B,off,e1,e2,e3⟩
 . exact .inl h4
 . exact .inr ⟨B,off,e1,sG e2 hb.size,fun i hi=>⟨by rw[hb.cell (p:=⟨B,off+i,none⟩) e2];exact (e3 i hi).1,(e3 i hi).2⟩⟩
theorem Bytes.next {w:World} {B off r c m:Nat} {bs:List Int} (h:Bytes w (some ⟨B,off,none⟩) r c bs) (hm:m<=r):Bytes w (if c=m then some ⟨B,off,none⟩ else some ⟨B,off+m,none⟩) (r - m) (c - m) (bs.drop m):=by
 obtain⟨h1,h2,h3,h4⟩:=h;refine⟨by rw[List.length_drop,h1],by omega,by omega,?_⟩
 by_cases h0:r - m=0
 . exact .inl h0
 . rcases h4 with h4|⟨B',off',e1,e2,e3⟩
   . omega
   . simp only[Option.some.injEq,Addr.mk.injEq] at e1
     obtain⟨rfl,rfl,_⟩:=e1;rw[aR (by omega)];refine .inr ⟨B,off+m,rfl,e2,fun i hi=>?_⟩;rw[getD_drop,Nat.add_assoc];exact e3 (m+i) (by omega)
def Rf (w:World) (a:Option Addr) (len cap:Nat) (bs:List Int) (k:Nat) (b v:Value) (wr:World):Prop:=
 ∃ acc r c' a',Told bs k acc∧b=.slice a' r c'∧wr.ownsRow w.heap.size 71 7 v k (gZ acc)∧Below w.heap.size w wr∧r=len - 5*k∧Bytes w a' r c' (bs.drop (5*k))
set_option maxHeartbeats 2000000 in
theorem FQ (a:Option Addr) (len cap:Nat) (bs:List Int) (w:World) (hbs:Bytes w a len cap bs):
 Calls Tryz.prog 64 #[.slice a len cap] w fun e E=>∃ v,e=.returned v∧Ow.Row E w.heap.size 7 v (gZ (dec 2000 bs))∧Below w.heap.size w E:=by
 have hlen:=hbs.1;go_enter Tryz.func64,Tryz.ntmps64;go_wp2
 go_loopw [0,3] (fun b v wr=>∃ k,Rf w a len cap bs k b v wr) (fun b _ _=>match b with|.slice _ n _=>n|_=>0)
 case atStart=>exact⟨0,[],len,cap,a,Told.start bs,rfl,World.ownsRow_nil _ _ _ _,Below.refl _ _,by omega,by simpa using hbs⟩
 case round=>
  obtain⟨k,acc,r,c',a',ht,rfl,aU,hbel,hr,hB⟩:=hrel;obtain⟨a2,cap2,rfl,hn2,hm2,hrow⟩:=Ow.bN aU
  by_cases hstop:r=0∨k=2000
  . have hfull:=ht.full (by omega)
    rw[hfull] at hrow;have hfin:Ow.Row wr w.heap.size 7 (.slice a2 k k) (gZ (dec 2000 bs))∧Below w.heap.size w wr:=⟨hrow,hbel⟩
    have HF:=Lib.hid hfin;have HB:=Lib.hid hbs;clear ht aU hB hfull hrow hfin hr hbel hlen hbs
    rcases hstop with rfl|rfl
    . go_wp2_with (go_at_call 92;refine (xz _ _ _ hn2 hm2 _).mono ?_;rintro e E ⟨rfl,rfl⟩)
      go_ret;exact⟨_,rfl,HF.out⟩
    . by_cases hr0:0<r
      . have hr1:(0:Int)<(r:Int):=by omega
        go_wp2_with (go_at_call 92;refine (xz _ _ _ hn2 hm2 _).mono ?_;rintro e E ⟨rfl,rfl⟩);go_ret;exact⟨_,rfl,HF.out⟩
      . obtain rfl:r=0:=by omega
        go_wp2_with (go_at_call 92;refine (xz _ _ _ hn2 hm2 _).mono ?_;rintro e E ⟨rfl,rfl⟩);go_ret;exact⟨_,rfl,HF.out⟩
  . have hr0:0<r:=by omega
    have hk0:k<2000:=by have:=ht.2.1;omega
    have hr1:(0:Int)<(r:Int):=by omega
    have hk1:(k:Int)<2000:=by omega
    have hBr:=hB.below hbel;obtain⟨hb1,hb2,hb3,hb4⟩:=hBr
    rcases hb4 with hb4|⟨B,off,rfl,hBl,hcell⟩
    . omega
    have HR:=Lib.hid hr;have HT:=Lib.hid (ht.step hk0 (by omega))
    by_cases h5:5<=r
    . have c0:=hcell 0 (by omega)
      have c1:=hcell 1 (by omega);have c2:=hcell 2 (by omega);have c3:=hcell 3 (by omega);have c4:=hcell 4 (by omega);rw[Nat.add_zero] at c0;have HO:=Br B off r c' h5 hb2 hb3 _ _ _ _ _ c0.2.1 c0.2.2 c1.2.1 c1.2.2 c2.2.1 c2.2.2 c3.2.1 c3.2.2 c4.2.1 c4.2.2 wr c0.1 c1.1 c2.1 c3.1 c4.1;have hh:Nr (bs.drop (5*k))=qM ((bs.drop (5*k)).getD 0 0) ((bs.drop (5*k)).getD 1 0) ((bs.drop (5*k)).getD 2 0) ((bs.drop (5*k)).getD 3 0) ((bs.drop (5*k)).getD 4 0):=by
       unfold Nr;rw[aR (by omega)]
      rw[<-hh] at HO;generalize Nr (bs.drop (5*k))=zp at*;have HI:=Lib.hid HO;have HB:=Lib.hid hB;have HD:Hid (Bytes w (some ⟨B,off,none⟩) r c' (bs.drop (5*k))):=hB;clear HO hh c0 c1 c2 c3 c4 hcell ht hB hr hb1 hrow hstop;obtain⟨ek,es,mD,kT,lQ,mJ,mi⟩:=zp;go_wp2_with fail;refine HI.out.mono ?_;rintro e Y ⟨rfl,hq⟩;have ku:=Ow.ni hbel hq;have hown1:=Ow.own_below aU hq;clear aU hbel hq;go_wp2_with (at_builtin;refine xy _ rfl (.tmp 22) (.tmp 24) rfl w.heap.size (.slice a2 k cap2) k (gZ acc) rfl ((hown1.alloc _).alloc _) ⟨Y.heap.size+1,0,none⟩ 1 (cellsE ⟨ek,es,mD,kT,lQ,mJ,mi⟩) rfl rfl ?c1 (uM _) (by omega) ?c5 ?_)
      case c1=>exact Ow.iw (Y.alloc _) (cellsE ⟨ek,es,mD,kT,lQ,mJ,mi⟩) _ (Y.heap.size+1) (by simp)
      case c5=>have:=ku.size;simp;omega
      intro v' w2 hown2 hg2;have oL:Below w.heap.size w w2:=Ow.nN ((hown1.alloc _).alloc _) ((ku.alloc ku.size _).alloc (by have:=ku.size;simp;omega) _) (by have:=ku.size;simp;omega) hg2;rw[<-rW] at hown2;clear hg2 hown1 ku;have Y3:(5:Int)<=(r:Int):=by omega
      have h5j:(5:Int)<=(c':Int):=by omega
      go_wp2_with fail;have hnext:=(HD.out).next h5
      rw[List.drop_drop,show 5*k+5=5*(k+1) from by omega] at hnext;exact⟨⟨k+1,_,r - 5,c' - 5,_,HT.out,rfl,hown2,oL,by have:=HR.out;omega,hnext⟩,by simp;omega⟩
    . have Y3:(r:Int)<5:=by omega
      have hh:Nr (bs.drop (5*k))=gG:=by unfold Nr;rw[aV (by omega)]
      rw[hh] at HT;have HB:Hid (Bytes w (some ⟨B,off,none⟩) r c' (bs.drop (5*k))):=hB;have HS:=Lib.hid (fun w=>Jn (some ⟨B,off,none⟩) r c' (by omega) w);have hrc:(r:Int)<=(c':Int):=by omega
      clear hh hcell ht hB hr hb1 hrow hstop h5;go_wp2_with (first|(go_at_call 90;refine (HS.out _).mono ?_;rintro e E ⟨rfl,rfl⟩)|(go_at_call 91;refine (wG _).mono ?_;rintro e E ⟨rfl,rfl⟩)|(at_builtin;refine xy _ rfl (.tmp 22) (.tmp 24) rfl w.heap.size (.slice a2 k cap2) k (gZ acc) rfl ?own _ 1 (cellsE gG) rfl rfl ?c1 (uM _) (by omega) ?c5 ?_))
      case own=>exact Ow.own_below aU (by (repeat (first|(with_reducible exact Below.refl _ _)|((with_reducible refine Below.setCell ?_ ?_ _);rotate_left;focus (first|(simp;done)|(simp;omega)))|(with_reducible refine below_drewN ?_ _)|(with_reducible refine Below.drew ?_)|((with_reducible refine Below.alloc ?_ ?_ _);rotate_left;focus (first|(simp;done)|(simp;omega))))))
      case c5=>have:=hbel.size;simp;omega
      case c1=>exact Ow.iw _ (cellsE gG) _ _ (by simp)
      intro v' w2 hown2 hg2;have oL:Below w.heap.size w w2:=Ow.nN (Ow.own_below aU (by (repeat (first|(with_reducible exact Below.refl _ _)|((with_reducible refine Below.setCell ?_ ?_ _);rotate_left;focus (first|(simp;done)|(simp;omega)))|(with_reducible refine below_drewN ?_ _)|(with_reducible refine Below.drew ?_)|((with_reducible refine Below.alloc ?_ ?_ _);rotate_left;focus (first|(simp;done)|(simp;omega))))))) (hbel.trans ((show Below wr.heap.size wr _ by (repeat (first|(with_reducible exact Below.refl _ _)|((with_reducible refine Below.setCell ?_ ?_ _);rotate_left;focus (first|(simp;done)|(simp;omega)))|(with_reducible refine below_drewN ?_ _)|(with_reducible refine Below.drew ?_)|((with_reducible refine Below.alloc ?_ ?_ _);rotate_left;focus (first|(simp;done)|(simp;omega)))))).mono hbel.size)) (by have:=hbel.size;simp;omega) hg2;rw[<-rW] at hown2;clear hg2 aU hbel;go_wp2_with fail;have hlast:Bytes w (if c'=r then some ⟨B,off,none⟩ else some ⟨B,off+r,none⟩) 0 (c' - r) (bs.drop (5*(k+1))):=
       ⟨by rw[List.length_drop];have:=HR.out;omega,by omega,by omega,.inl rfl⟩
      exact⟨⟨k+1,_,0,c' - r,_,HT.out,rfl,hown2,oL,by have:=HR.out;omega,hlast⟩,by simp;omega⟩
theorem DJ {w:World} {g off:Nat} {l:List En} (h:∀ j,j<l.length*7->w.cell? ⟨g,off+j,none⟩=(gZ l)[j]?) (i:Nat) (hi:i<l.length) (d:En):
 ∀ f,f<7->w.cell? ⟨g,off+(i*7+f),none⟩=(cellsE (l.getD i d))[f]? :=by
 intro f hf;rw[h (i*7+f) (by omega)];have F:∀ (l:List En) (i:Nat),i<l.length->(gZ l)[i*7+f]? =(cellsE (l.getD i d))[f]? :=by
  intro l
  induction l with
  |nil=>intro i hi;simp at hi
  |cons e l ih=>
   intro i hi;show (cellsE e++gZ l)[i*7+f]? =_
   cases i with
   |zero=>
    rw[List.getElem?_append_left (by show 0*7+f<7;omega)];simp
   |succ i=>
    rw[Qx (by show 7<=_;omega)];rw[show (i+1)*7+f - (cellsE e).length=i*7+f from by show _ - 7=_;omega];rw[ih i (by simpa using hi)];simp
 exact F l i hi
def BB (w:World) (e:Ending) (E:World) (b0 b1 b2 b3 b4:Int):Prop:=
 ∃ g,e=.returned (.slice (some ⟨g,0,none⟩) 5 5)∧w.heap.size<=g∧g<E.heap.size∧Below w.heap.size w E∧
  E.cell? ⟨g,0,none⟩=some (.int .u8 b0)∧E.cell? ⟨g,1,none⟩=some (.int .u8 b1)∧E.cell? ⟨g,2,none⟩=some (.int .u8 b2)∧E.cell? ⟨g,3,none⟩=some (.int .u8 b3)∧E.cell? ⟨g,4,none⟩=some (.int .u8 b4)
theorem BB.new (w:World) (o:Obj) (b0 b1 b2 b3 b4:Int):BB w (.returned (.slice (some ⟨w.heap.size+1,0,none⟩) 5 5)) ((w.alloc o).alloc (.cells #[.int .u8 b0,.int .u8 b1,.int .u8 b2,.int .u8 b3,.int .u8 b4] 5)) b0 b1 b2 b3 b4:=
 ⟨w.heap.size+1,rfl,by omega,by simp,bW w _ _,by go_simp,by go_simp,by go_simp,by go_simp,by go_simp⟩
set_option maxHeartbeats 1000000 in
theorem FT (ek es mD kT lQ mJ mi:Int) (h:ek=1) (w:World):
 Calls Tryz.prog 61 #[lN ⟨ek,es,mD,kT,lQ,mJ,mi⟩] w fun e E=>BB w e E ((ek - 1) % 256) (es % 256) (mD % 256) 0 0:=by
 subst h;go_enter Tryz.func61,Tryz.ntmps61;go_wp2;go_ret;exact BB.new w _ 0 (es % 256) (mD % 256) 0 0
set_option maxHeartbeats 1000000 in
theorem BC (ek es mD kT lQ mJ mi:Int) (h1:ek≠1) (h2:ek≠2) (w:World):
 Calls Tryz.prog 61 #[lN ⟨ek,es,mD,kT,lQ,mJ,mi⟩] w fun e E=>BB w e E ((ek - 1) % 256) (es % 256) 0 0 0:=by
 have d1:(ek==1)=false:=beq_eq_false_iff_ne.2 h1;have d2:(ek==2)=false:=beq_eq_false_iff_ne.2 h2;clear h1 h2;have hw:wrap64 (ek - 1) % 256=(ek - 1) % 256:=by unfold wrap64;omega
 go_enter Tryz.func61,Tryz.ntmps61;go_wp2;go_ret;exact BB.new w _ ((ek - 1) % 256) (es % 256) 0 0 0
set_option maxHeartbeats 2000000 in
theorem FU (ek es mD kT lQ mJ mi:Int) (h:ek=2) (ho:(kT==5)=false) (w:World):
 Calls Tryz.prog 61 #[lN ⟨ek,es,mD,kT,lQ,mJ,mi⟩] w fun e E=>BB w e E ((ek - 1) % 256) (es % 256) (kT*8 % 256) (lQ % 256) (mi % 256):=by
 subst h;have hw:wrap64 (kT*8) % 256=kT*8 % 256:=by unfold wrap64;omega
 go_enter Tryz.func61,Tryz.ntmps61;go_wp2
 go_region_held3 (fun E=>E.cell? ⟨w.heap.size,3,none⟩=some (.int .i64 kT)∧E.cell? ⟨w.heap.size,4,none⟩=some (.int .i64 lQ)∧E.cell? ⟨w.heap.size,6,none⟩=some (.int .i64 mi)) (go_keep) (fail)
 go_wp2;go_ret;refine⟨w.heap.size+1,rfl,by omega,by simp,by (repeat (first|(with_reducible exact Below.refl _ _)|((with_reducible refine Below.setCell ?_ ?_ _);rotate_left;focus (first|(simp;done)|(simp;omega)))|(with_reducible refine below_drewN ?_ _)|(with_reducible refine Below.drew ?_)|((with_reducible refine Below.alloc ?_ ?_ _);rotate_left;focus (first|(simp;done)|(simp;omega))))),by go_simp,by go_simp,by go_simp,by go_simp,by go_simp⟩
set_option maxHeartbeats 2000000 in
theorem DK (ek es mD kT lQ mJ mi:Int) (h:ek=2) (ho:kT=5) (w:World):
 Calls Tryz.prog 61 #[lN ⟨ek,es,mD,kT,lQ,mJ,mi⟩] w fun e E=>BB w e E ((ek - 1) % 256) (es % 256) (kT*8 % 256) (lQ % 256) (mJ % 256):=by
 subst h ho;go_enter Tryz.func61,Tryz.ntmps61;go_wp2
 go_region_held3 (fun E=>E.cell? ⟨w.heap.size,3,none⟩=some (.int .i64 5)∧E.cell? ⟨w.heap.size,4,none⟩=some (.int .i64 lQ)∧E.cell? ⟨w.heap.size,6,none⟩=some (.int .i64 mi)) (go_keep) (fail)
 go_wp2;go_ret;refine⟨w.heap.size+1,rfl,by omega,by simp,by (repeat (first|(with_reducible exact Below.refl _ _)|((with_reducible refine Below.setCell ?_ ?_ _);rotate_left;focus (first|(simp;done)|(simp;omega)))|(with_reducible refine below_drewN ?_ _)|(with_reducible refine Below.drew ?_)|((with_reducible refine Below.alloc ?_ ?_ _);rotate_left;focus (first|(simp;done)|(simp;omega))))),by go_simp,by go_simp,by go_simp,by go_simp,by go_simp⟩
theorem FV (e:En) (w:World):
 Calls Tryz.prog 61 #[lN e] w fun x E=>BB w x E ((e.k - 1) % 256) (e.s % 256) (r2 e) (r3 e) (r4 e):=by
 obtain⟨k,s,lv,ok,oy,oh,ov⟩:=e;unfold r2 r3 r4
 by_cases h1:k=1
 . have:=FT k s lv ok oy oh ov h1 w
   subst h1;exact this
 . by_cases h2:k=2
   . by_cases h5:ok=5
     . have:=DK k s lv ok oy oh ov h2 h5 w
       subst h2 h5;exact this
     . have:=FU k s lv ok oy oh ov h2 (beq_eq_false_iff_ne.2 h5) w
       simp only[aR h1,aV h2,aR h5];exact this
   . have:=BC k s lv ok oy oh ov h1 h2 w
     simp only[aR h1,aR h2];exact this
def Qg (w:World) (g:Nat) (e:En):Prop:=g<w.heap.size∧∀ f,f<7->w.cell? ⟨g,f,none⟩=(cellsE e)[f]?
theorem Qg.below {w Y:World} {g:Nat} {e:En} (h:Qg w g e) (hb:Below w.heap.size w Y):Qg Y g e:=
 ⟨sG h.1 hb.size,fun f hf=>by rw[hb.cell (p:=⟨g,f,none⟩) h.1];exact h.2 f hf⟩
theorem Qg.new (w:World) (e:En) (T:TypeId) (c:Array Value) (hc:c=(cellsE e).toArray):Qg (w.alloc (.cells c T)) w.heap.size e:=by
 subst hc;refine⟨by simp,fun f hf=>?_⟩;rw[World.cell?_alloc_at _ _ _ _ rfl];simp
theorem Qg.cells {w:World} {g:Nat} {ek es mD kT lQ mJ mi:Int} (h:Qg w g ⟨ek,es,mD,kT,lQ,mJ,mi⟩):
 w.cell? ⟨g,0,none⟩=some (.int .i64 ek)∧w.cell? ⟨g,1,none⟩=some (.int .i64 es)∧w.cell? ⟨g,2,none⟩=some (.int .i64 mD)∧w.cell? ⟨g,3,none⟩=some (.int .i64 kT)∧w.cell? ⟨g,4,none⟩=some (.int .i64 lQ)∧w.cell? ⟨g,5,none⟩=some (.int .i64 mJ)∧w.cell? ⟨g,6,none⟩=some (.int .i64 mi):=
 ⟨h.2 0 (by omega),h.2 1 (by omega),h.2 2 (by omega),h.2 3 (by omega),h.2 4 (by omega),h.2 5 (by omega),h.2 6 (by omega)⟩
def vM (n:Int):Bool:=decide (0<=n∧n<=255)
theorem OV (n:Int) (h:vM n=true) (w:World):Calls Tryz.prog 111 #[.int .i64 n] w fun e E=>e=.returned (.bool false)∧w=E:=by
 obtain⟨h1,h2⟩:=of_decide_eq_true h;have h3:decide (n<0)=false:=by simpa using h1
 have h4:decide (255<n)=false:=by simpa using h2
 clear h h1 h2;go_enter Tryz.func111,Tryz.ntmps111;go_wp2;go_ret;exact⟨rfl,rfl⟩
theorem Lu (n:Int) (h:vM n=false) (w:World):Calls Tryz.prog 111 #[.int .i64 n] w fun e E=>e=.returned (.bool true)∧w=E:=by
 have h1:=of_decide_eq_false h;clear h
 by_cases h2:n<0
 . clear h1
   go_enter Tryz.func111,Tryz.ntmps111;go_wp2;go_ret;exact⟨rfl,rfl⟩
 . have h3:255<n:=by omega
   clear h1;go_enter Tryz.func111,Tryz.ntmps111;go_wp2;go_ret;exact⟨rfl,rfl⟩
def OW (zs:List Int) (w:World) (e:Ending) (E:World):Prop:=∃ r:Int,e=.returned (.int .i64 r)∧decide (0<=r)=!(zs.all vM)∧w=E
theorem uG (g off cap:Nat) (zs:List Int) (hm:zs.length<=1000000) (w:World) (hc:∀ i,i<zs.length->w.cell? ⟨g,off+i,none⟩=some (.int .i64 (zs.getD i 0))):
 Calls Tryz.prog 139 #[.slice (some ⟨g,off,none⟩) zs.length cap,.func (.func 111) #[] #[]] w (OW zs w):=by
 obtain⟨n,hn⟩:∃ n,zs.length=n:=⟨_,rfl⟩
 rw[hn] at hc hm ⊢;have HN:=Lib.hid hn;have HC:=Lib.hid hc;clear hn hc;go_enter Tryz.func139,Tryz.ntmps139;go_wp2
 go_loop [8] (fun i=>∃ k:Nat,k<=n∧i=.int .i64 k∧(zs.take k).all vM=true) (fun i=>n - (intOf i).toNat)
 case atStart=>exact⟨0,by omega,rfl,by simp⟩
 case round=>
  obtain⟨k,Z,rfl,hall⟩:=hrel;have HA:=Lib.hid hall;clear hall
  by_cases hlt:k<n
  . have c:=HC.out k hlt
    have i1:(0:Int)<=(k:Int):=by omega
    have i2:(k:Int)<(n:Int):=by omega
    have hlen:=HN.out;have hget:zs.getD k 0=zs[k]'(by omega):=by simp[mM,zx (show k<zs.length by omega)]
    have htake:zs.take (k+1)=zs.take k++[zs.getD k 0]:=by rw[hget,List.take_succ_eq_append_getElem (by omega)]
    have hmem:zs.getD k 0∈zs:=by rw[hget];exact List.getElem_mem _
    generalize zs.getD k 0=z at*
    by_cases hz:vM z=true
    . have hnext:(zs.take (k+1)).all vM=true:=by rw[htake,List.all_append,HA.out];simp[hz]
      have HX:=Lib.hid hnext;clear hlen hget htake hmem hnext;go_wp2_with (go_at_call 111;refine (OV _ hz _).mono ?_;rintro e E ⟨rfl,rfl⟩)
      go_round
      case rel=>exact⟨k+1,by omega,by go_num,HX.out⟩
      case measure=>simp[intOf];omega
    . have hz':vM z=false:=by simpa using hz
      have hno:zs.all vM=false:=by
       rw[List.all_eq_false];exact⟨z,hmem,by simp[hz']⟩
      have HX:=Lib.hid hno;clear hlen hget htake hmem hno hz;go_wp2_with (go_at_call 111;refine (Lu _ hz' _).mono ?_;rintro e E ⟨rfl,rfl⟩);go_ret;exact⟨k,rfl,by rw[HX.out];simp,rfl⟩
  . obtain rfl:k=n:=by omega
    have Um:zs.all vM=true:=by have:=HA.out;rwa [List.take_of_length_le (by have:=HN.out;omega)] at this
    have HX:=Lib.hid Um;clear Um hlt;go_wp2;go_ret;exact⟨-1,rfl,by rw[HX.out];rfl,rfl⟩
theorem pJ (g off cap:Nat) (zs:List Int) (hm:zs.length<=1000000) (w:World) (hc:∀ i,i<zs.length->w.cell? ⟨g,off+i,none⟩=some (.int .i64 (zs.getD i 0))):
 Calls Tryz.prog 88 #[.slice (some ⟨g,off,none⟩) zs.length cap] w fun e E=>e=.returned (.bool (zs.all vM))∧w=E:=by
 have HI:=Lib.hid (uG g off cap zs hm w hc);generalize zs.length=n at*;have zi:∀ b,zs.all vM=b->Calls Tryz.prog 88 #[.slice (some ⟨g,off,none⟩) n cap] w fun e E=>e=.returned (.bool b)∧w=E:=by
  intro b hb;have HB:=Lib.hid hb;clear hb hc;go_enter Tryz.func88,Tryz.ntmps88;go_wp2_with (first|(go_at_call 139;refine HI.out.mono ?_;rintro e E ⟨r,rfl,hr,rfl⟩;rw[HB.out] at hr)|go_in);go_ret;exact⟨rfl,rfl⟩
 exact zi _ rfl
end Go.Proofs.YthicolbbmjfkfaaGreat.bR
