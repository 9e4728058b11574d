import Derived.Test.YthicolbbmjfkfaaGreatQf21
import Derived.Test.YthicolbbmjfkfaaGreatQf27
import Derived.ChangeOld
import Derived.Deep.Slices
import Derived.Deep.CutRange
set_option linter.unusedVariables false
set_option linter.unusedSimpArgs false
set_option maxRecDepth 100000
set_option maxHeartbeats 1600000
namespace Go.Proofs.YthicolbbmjfkfaaGreat.Em
open Go.ChangeShapes Go.WideShapes Go.ChangeAt Go.RowKit En
theorem Ez {B:dW} {V:Nat} {w0 w:World} {ks:List Kept} {W:Wd} (h:WK B V w0 ks W w) (s er:Int) (st:Status)
 (HS:∀ ks H,WK B V w0 ks W H->zk 10 #[R V 0,I s] H fun e E=>e=.returned (.agg (dF st))∧WK B V w0 ks W E)
 (HT:∀ ks H,WK B V w0 ks W H->zk 34 #[R V 0,I s] H fun e E=>e=.returned (.tuple #[.agg #[I 0,I 0,I 0,.slice none 0 0,I 0,I 0],I er])∧WK B V w0 ks W E)
 (hm:er=1∧(s<0∨7<s)∨er=9∧(∃ n:Nat,s=(n:Int)∧n<8)∧st.busy=false):
 zk 57 #[R B.bw 0,I s] w fun e E=>e=.returned (.bool true)∧∃ ks',WK B V w0 (ks'++ks) W E:=by
 obtain⟨lv,bz,wt,a1,a2,a3,a4,a5,ops,hst,hbz,hops⟩:=qW st;rw[hst] at HS;rw[<-hbz] at hm;have N1:=U HS;have N3:=U HT;obtain⟨lk,hlk⟩:∃ lk,lk=W.D.aA:=⟨_,rfl⟩
 have N2:Hid (∀ ks H,WK B V w0 ks W H->zk 56 #[R V 0] H fun e E=>e=.returned (I lk)∧H=E):=fun ks H q=>by
  have hh:=iR q;rw[<-hlk] at hh;exact hh
 have C:Hid (∀ ks H,WK B V w0 ks W H->H.cell? (J B.bw 0)=zs V 0):=fun ks H q=>(q.fZ 0 rfl).1
 have x0:=C.out _ _ h;have T0:=U h;clear h HS HT hst hbz hops hlk;have ae:(er=1∧(((s<0)=True∧decide (s<0)=true)∨((s<0)=False∧decide (s<0)=false∧(7<s)=True∧decide (7<s)=true)))∨(∃ n:Nat,s=(n:Int)∧n<8∧er=9∧bz=false):=by
  rcases hm with ⟨e1,e2⟩|⟨e1,⟨n,e2,e3⟩,e4⟩
  . refine .inl ⟨e1,?_⟩
    by_cases h0:s<0
    . exact .inl ⟨by simpa using h0,by simpa using h0⟩
    . have h7:7<s:=e2.resolve_left h0
      exact .inr ⟨by simpa using h0,by simpa using h0,by simpa using h7,by simpa using h7⟩
  . exact .inr ⟨n,e2,e3,e1,e4⟩
 clear hm
 rcases ae with ⟨rfl,⟨f1,f2⟩|⟨f1,f2,f3,f4⟩⟩|⟨n,rfl,hn,rfl,rfl⟩
 rotate_left 2
 . have b0:((n:Int)<0)=False:=by simp
   have b1:((7:Int)<(n:Int))=False:=by simp;omega
   have b4:decide ((n:Int)<0)=false:=by simp
   have b5:decide ((7:Int)<(n:Int))=false:=by simp;omega
   have b6:(7<n)=False:=by simp;omega
   clear hn;go_enter Tryz.func57,Tryz.ntmps57;go_wp2_with (first|(go_at_call 10;refine (N1.out _ _ T0.out).mono ?_;clear T0;rintro e H ⟨rfl,q⟩;have qa:=q.alloc (.cells #[.bool lv,.bool false,.bool wt,I a1,I a2,I a3,zu a4,zu a5,I ops] 42);have x1:=C.out _ _ qa;have y1:=au (qa.obj iG) 1 rfl;have T1:=U qa;clear q qa)|(go_at_call 56;refine (N2.out _ _ T1.out).mono ?_;rintro e E ⟨rfl,rfl⟩;have T2:=T1;clear T1)|(go_at_call 34;refine (N3.out _ _ T2.out).mono ?_;clear T2;rintro e w3 ⟨rfl,q⟩;have qa:=q.alloc (.cells #[I 0,I 0,I 0,.slice none 0 0,I 0,I 0] 81);have x3:=C.out _ _ qa;have y3:=au (qa.tail.obj iG) 1 rfl;have z3:=au (qa.obj iG) 0 rfl;have T3:=U qa;clear q qa)|(go_at_call 56;refine (N2.out _ _ T3.out).mono ?_;rintro e E ⟨rfl,rfl⟩));go_ret;exact⟨rfl,[_,_],T3.out⟩
 all_goals (
  go_enter Tryz.func57,Tryz.ntmps57
  go_wp2_with (first|(go_at_call 10;refine (N1.out _ _ T0.out).mono ?_;clear T0;rintro e H ⟨rfl,q⟩;have qa:=q.alloc (.cells #[.bool lv,.bool bz,.bool wt,I a1,I a2,I a3,zu a4,zu a5,I ops] 42);have x1:=C.out _ _ qa;have y1:=au (qa.obj iG) 1 rfl;have T1:=U qa;clear q qa)|(go_at_call 56;refine (N2.out _ _ T1.out).mono ?_;rintro e E ⟨rfl,rfl⟩;have T2:=T1;clear T1)|(go_at_call 34;refine (N3.out _ _ T2.out).mono ?_;clear T2;rintro e w3 ⟨rfl,q⟩;have qa:=q.alloc (.cells #[I 0,I 0,I 0,.slice none 0 0,I 0,I 0] 81);have x3:=C.out _ _ qa;have y3:=au (qa.tail.obj iG) 1 rfl;have z3:=au (qa.obj iG) 0 rfl;have T3:=U qa;clear q qa)|(go_at_call 56;refine (N2.out _ _ T3.out).mono ?_;rintro e E ⟨rfl,rfl⟩))
  go_ret
  exact⟨rfl,[_,_],T3.out⟩
 )
end Go.Proofs.YthicolbbmjfkfaaGreat.Em
namespace Go.Proofs.YthicolbbmjfkfaaGreat.Em
open Go.ChangeShapes Go.WideShapes Go.ChangeAt Go.RowKit En
open Cw (WF WC LI LK LZ aS)
def tid (t:Option bL):Nat:=match t with|some t=>t.id|none=>0
structure WW (N L n:Nat) (W:Wd):Prop where
 li:LI N L n W.D
 ct:W.D.count<=8*n
 lk:W.D.aA<=8*n
 sq:W.D.seq<=n
 dl:W.bq.length=W.D.aB
 i8:W.ids.length=8
 ids:∀ s,s<8->W.ids.getD s 0=tid (W.D.ai.getD s none)
 op:∀ (k:Nat) (p:Dl),W.bq[k]? =some p->p.ops.length<=n
 go:W.gone.length<=n
theorem WW.wf {N L n:Nat} {W:Wd} (h:WW N L n W):WF N L n W.D:=h.li.wf
theorem WW.mono {N L n n':Nat} {W:Wd} (h:WW N L n W) (hn:n<=n'):WW N L n' W:=⟨h.li.mono hn,by have:=h.ct;omega,by have:=h.lk;omega,by have:=h.sq;omega,h.dl,h.i8,h.ids,fun k p Y=>fq (h.op k p Y) hn,fq h.go hn⟩
def Al (bw V:Nat) (w0:World) (ks:List Kept) (W':Wd):Ending->World->Prop:=fun e E=>e=.returned (.bool true)∧∃ ks' B',B'.bw=bw∧WK B' V w0 (ks'++ks) W' E
theorem uJ (l:List Nat) (i v q:Nat) (h:i<l.length):(l.set i v).getD q 0=if q=i then v else l.getD q 0:=by
 simp only[mM,List.getElem?_set]
 by_cases e:i=q
 . subst e;simp[h]
 . have e2:¬ q=i:=fun h=>e h.symm
   simp[e,e2]
theorem dU {D:St} {s:Nat} {t:bL} (ht:D.ai.getD s none=some t):(D.status s).busy=(D.calls.getD s none).isSome∧(D.status s).live=true∧(D.status s).ops=t.ops:=by
 unfold St.status;rw[ht];exact⟨rfl,rfl,rfl⟩
theorem lS {D:St} {s:Nat} (ht:D.ai.getD s none=none):D.status s={}:=by unfold St.status;rw[ht]
section
variable {N L n:Nat} {W:Wd}
theorem WW.aJ (h:WW N L n W) (hn:n<300000) (hmd:W.D.aB<2000) (s ax:Int):∃ W',WW N L (n+3) W'∧W'.D.aB<=W.D.aB+1∧
 ∀ B V w0 ks w,WK B V w0 ks W w->zk 54 #[R B.bw 0,I s,I ax] w (Al B.bw V w0 ks W'):=by
 have hct:=h.ct;have hw0:=(h.wf.sh.wd 0).u
 by_cases hok:sI s=true∧lI ax=true
 . obtain⟨m,rfl,hm⟩:=Lp hok.1
   obtain⟨l,rfl,hl1,hl3⟩:=TW hok.2
   cases ht:W.D.ai.getD m none with
   |some t=>
    refine⟨W,h.mono (by omega),by omega,fun B V w0 ks w q=>?_⟩;refine (uo q (m:Int) (l:Int) 9 W.D (by omega) rfl hw0 hw0 (fun ks H q=>?_)).mono (fun e E x=>⟨x.1,[],B,rfl,x.2⟩);obtain⟨A,rfl,lv,r,g,tk⟩:=q.ex;refine (Dz lv m hm l hl1 hl3 t ht).mono ?_;rintro e E ⟨A',rfl,hL',g',e'⟩;exact⟨rfl,WK.of lv r g tk hL' g' e'⟩
   |none=>
    by_cases hlim:aj (W.D.word 0)<W.D.limit
    . obtain⟨aC,Z,hwf,hc1,hc2,hlk,BV,WA,hcl,htx,hoth,hwd⟩:=h.wf.aJ hm ht hl1 hl3 hmd hlim (by omega) (by omega)
      have hi0:W.ids.getD m 0=0:=by rw[h.ids m hm,ht];rfl
      have Zr:=((h.wf.sh.wd 0).ck rfl).1;have Zt:=h.wf.sh.l1;have uu:aC.now=W.D.now+1:=by unfold St.now;rw[hwd];unfold aj aV;omega
      have hwb:oI W m l=some {W with D:=aC,ids:=W.ids.set m (W.D.aB+1),bq:=W.bq++[⟨W.D.aB+1,l,1,W.D.now+1,0,[]⟩]}:=by
       unfold oI;rw[Z];simp only;rw[aW ⟨by rw[h.dl],hi0,uu,hw0,(hwf.sh.wd 0).u,by rw[h.dl];omega⟩]
      refine⟨_,⟨(h.li.aJ hm Z hwf hoth hcl htx (h.wf.yg ht)).mono (by omega),?_,?_,?_,?_,?_,?_,?_,?_⟩,by show aC.aB<=_;omega,fun B V w0 ks w q=>(wS q hm hwb).mono (fun e E x=>⟨x.1,[],x.2⟩)⟩
      . show aC.count<=_;omega
      . show aC.aA<=_;have:=h.lk;omega
      . show aC.seq<=_;have:=h.sq;omega
      . show (W.bq++[_]).length=aC.aB
        rw[jb,h.dl,WA];rfl
      . show (W.ids.set m _).length=8
        rw[nD];exact h.i8
      . intro q hq
        show (W.ids.set m _).getD q 0=tid (aC.ai.getD q none);rw[uJ _ _ _ _ (by rw[h.i8];exact hm)]
        by_cases e:q=m
        . rw[aW e,e,htx];rfl
        . rw[bu e,hoth q e,h.ids q hq]
      . intro k p Y
        change (W.bq++[_])[k]? =some p at Y
        by_cases hkl:k<W.bq.length
        . rw[List.getElem?_append_left hkl] at Y
          exact fq (h.op k p Y) (by omega)
        . rw[EB (by omega)] at Y
          by_cases hk0:k - W.bq.length=0
          . rw[hk0] at Y
            obtain rfl:=zj Y;exact zz _
          . rw[q9 (by simp;omega)] at Y;cases Y
      . exact fq h.go (by omega)
    . refine⟨{W with D:=W.D.tick},⟨h.li.tick.mono (by omega),?_,?_,?_,h.dl,h.i8,h.ids,fun k p Y=>fq (h.op k p Y) (by omega),fq h.go (by omega)⟩,pQ _,fun B V w0 ks w q=>?_⟩
      . show W.D.count+1<=_;omega
      . show W.D.aA<=_;have:=h.lk;omega
      . show W.D.seq<=_;have:=h.sq;omega
      refine (uo q (m:Int) (l:Int) 16 W.D.tick (by omega) rfl hw0 hw0 (fun ks H q=>?_)).mono (fun e E x=>⟨x.1,[],B,rfl,x.2⟩);obtain⟨A,rfl,lv,r,g,tk⟩:=q.ex;refine (FC lv m hm l hl1 hl3 ht hmd hw0 (by omega) (by omega)).mono ?_;rintro e E ⟨A',rfl,hL',g',e'⟩;exact⟨rfl,WK.of lv r g tk hL' g' e'⟩
 . have Z:sI s=false∨lI ax=false:=by
    cases h1:sI s with
    |false=>exact .inl rfl
    |true=>
     cases h2:lI ax with
     |false=>exact .inr rfl
     |true=>exact absurd ⟨h1,h2⟩ hok
   refine⟨W,h.mono (by omega),by omega,fun B V w0 ks w q=>?_⟩;refine (uo q s ax 1 W.D (by omega) rfl hw0 hw0 (fun ks H q=>(Jb V H s ax Z).mono ?_)).mono (fun e E x=>⟨x.1,[],B,rfl,x.2⟩);rintro e E ⟨rfl,rfl⟩;exact⟨rfl,q⟩
theorem MJ {s:Int} (h:sI s=false):s<0∨7<s:=by
 unfold sI at h;simp at h;omega
theorem WW.kY (h:WW N L n W) (hn:n<300000) (s k F hi v:Int):∃ W',WW N L (n+3) W'∧W'.D.aB=W.D.aB∧
 ∀ B V w0 ks w,WK B V w0 ks W w->zk 55 #[R B.bw 0,I s,.agg #[I k,I F,I hi,I v]] w (Al B.bw V w0 ks W'):=by
 have hsame:WW N L (n+3) W:=h.mono (by omega)
 cases hs:sI s with
 |false=>
  refine⟨W,hsame,rfl,fun B V w0 ks w q=>?_⟩;refine (zI q s k F hi v 1 {} (fun ks H q=>(wX V H s hs).mono (fun e E x=>⟨x.1,q.below x.2⟩)) (fun ks H q=>(Jc V H s k F hi v hs).mono (fun e E x=>⟨x.1,q.below x.2⟩)) (.inl ⟨rfl,MJ hs⟩)).mono (fun e E x=>?_);obtain⟨x1,ks',x2⟩:=x;exact⟨x1,ks',B,rfl,x2⟩
 |true=>
  obtain⟨m,rfl,hm⟩:=Lp hs;have hid:=h.ids m hm;have refuse:∀ er:Int,(∀ A w,Live A W.D w->zk 33 #[R A.V 0,I m,.agg #[I k,I F,I hi,I v]] w fun e E=>e=.returned (I er)∧Below w.heap.size w E)->
   (er=9∧W.ids.getD m 0=0∨er=9∧W.ids.getD m 0≠0∧BX k F hi v=false∨W.ids.getD m 0≠0∧BX k F hi v=true∧(er=9∧(W.D.status m).busy=true∨er=65∧(W.D.status m).busy=false∧k<6∧12<=(W.D.status m).ops))->
   ∃ W',WW N L (n+3) W'∧W'.D.aB=W.D.aB∧∀ B V w0 ks w,WK B V w0 ks W w->zk 55 #[R B.bw 0,I m,.agg #[I k,I F,I hi,I v]] w (Al B.bw V w0 ks W'):=by
   intro er hI hm2;refine⟨W,hsame,rfl,fun B V w0 ks w q=>?_⟩;refine (zI q (m:Int) k F hi v er (W.D.status m) (fun ks H q=>fF q m hm) (fun ks H q=>?_) (.inr ⟨m,_,rfl,hm,rfl,hm2⟩)).mono (fun e E x=>?_)
   . obtain⟨A,rfl,lv,r,g,tk⟩:=q.ex
     exact (hI A H lv).mono (fun e E x=>⟨x.1,WK.below ⟨A,rfl,lv,r,g,tk⟩ x.2⟩)
   . obtain⟨x1,ks',x2⟩:=x
     exact⟨x1,ks',B,rfl,x2⟩
  cases ht:W.D.ai.getD m none with
  |none=>exact refuse 9 (fun A w lv=>wW lv m hm k F hi v (.inl ht)) (.inl ⟨rfl,by rw[hid,ht];rfl⟩)
  |some t=>
   have hT:=h.wf.tx m t ht;have Jv:W.ids.getD m 0≠0:=by rw[hid,ht];show t.id≠0;have:=hT.i1;omega
   obtain⟨sb,sl,so⟩:=dU ht
   cases ho:BX k F hi v with
   |false=>exact refuse 9 (fun A w lv=>wW lv m hm k F hi v (.inr (.inl ho))) (.inr (.inl ⟨rfl,Jv,ho⟩))
   |true=>
    cases hc:W.D.calls.getD m none with
    |some c=>exact refuse 9 (fun A w lv=>wW lv m hm k F hi v (.inr (.inr (by rw[hc];rfl)))) (.inr (.inr ⟨Jv,ho,.inl ⟨rfl,by rw[sb,hc];rfl⟩⟩))
    |none=>
     obtain⟨o,rfl,rfl,rfl,rfl,UU⟩:=Q4 ho;have Zv:=Cw.xw UU
     by_cases EA:12<=t.ops∧gU o=false
     . refine refuse 65 (fun A w lv=>FK lv m hm t ht o UU EA.2 hc EA.1) (.inr (.inr ⟨Jv,ho,.inr ⟨rfl,by rw[sb,hc];rfl,?_,by rw[so];exact EA.1⟩⟩))
       have he:=EA.2;unfold gU at he;simp at he
       (try omega)
     . have hop:t.ops<12∨gU o=true:=by
        by_cases h12:t.ops<12
        . exact .inl h12
        . right
          cases e:gU o with
          |true=>rfl
          |false=>exact absurd ⟨by omega,e⟩ EA
       have BV:=h.sq;obtain⟨aC,hi,hwf,hct,hlk,Ec,hmd,⟨c,hcc,hco⟩,htx,hoth,BS⟩:=h.wf.kY hm ht hc UU hop (by omega) (by omega);have hbz:(aC.status m).busy=true:=by
        obtain⟨t2,ht2⟩:=ou.1 htx;rw[(dU ht2).1,hcc];rfl
       have WB:(W.D.status m).ops<12∨6<=o.kind:=by
        rw[so]
        rcases hop with hop|hop
        . exact .inl hop
        . right
          unfold gU at hop;simp at hop;omega
       have WG:kX W m o=some {W with D:=aC,ops:=W.ops.set m o}:=by
        unfold kX;rw[hi];simp only;rw[aW ⟨UU,Jv,by rw[sb,hc];rfl,WB,hbz⟩]
       refine⟨{W with D:=aC,ops:=W.ops.set m o},⟨(h.li.kY hm hi hwf).mono (by omega),?_,?_,?_,?_,h.i8,?_,fun k p Y=>fq (h.op k p Y) (by omega),fq h.go (by omega)⟩,hmd,fun B V w0 ks w q=>(pz q hm o WG).mono (fun e E x=>⟨x.1,[],B,rfl,x.2⟩)⟩
       . show aC.count<=_;have:=h.ct;omega
       . show aC.aA<=_;have:=h.lk;omega
       . show aC.seq<=_;omega
       . show W.bq.length=aC.aB;rw[h.dl,hmd]
       . intro q hq
         show W.ids.getD q 0=tid (aC.ai.getD q none)
         by_cases e:q=m
         . subst e
           rw[hid,ht];obtain⟨t2,ht2⟩:=ou.1 htx;rw[ht2];exact (BS t2 ht2).symm
         . rw[(hoth q e).1];exact h.ids q hq
theorem WW.step (h:WW N L n W) (hn:n<100000) (s:Int):∃ W',WW N L (n+3) W'∧W'.D.aB=W.D.aB∧
 ∀ B V w0 ks w,WK B V w0 ks W w->zk 57 #[R B.bw 0,I s] w (Al B.bw V w0 ks W'):=by
 have hsame:WW N L (n+3) W:=h.mono (by omega)
 cases hs:sI s with
 |false=>
  refine⟨W,hsame,rfl,fun B V w0 ks w q=>?_⟩;refine (Ez q s 1 {} (fun ks H q=>(wX V H s hs).mono (fun e E x=>⟨x.1,q.below x.2⟩)) (fun ks H q=>(Ls V H s hs).mono (fun e E x=>⟨x.1,q.below x.2⟩)) (.inl ⟨rfl,MJ hs⟩)).mono (fun e E x=>?_);obtain⟨x1,ks',x2⟩:=x;exact⟨x1,ks',B,rfl,x2⟩
 |true=>
  obtain⟨m,rfl,hm⟩:=Lp hs
  cases hc:W.D.calls.getD m none with
  |none=>
   refine⟨W,hsame,rfl,fun B V w0 ks w q=>?_⟩;refine (Ez q (m:Int) 9 (W.D.status m) (fun ks H q=>fF q m hm) (fun ks H q=>?_) (.inr ⟨rfl,⟨m,rfl,hm⟩,?_⟩)).mono (fun e E x=>?_)
   . obtain⟨A,rfl,lv,r,g,tk⟩:=q.ex
     exact (OU lv m hm hc).mono (fun e E x=>⟨x.1,WK.below ⟨A,rfl,lv,r,g,tk⟩ x.2⟩)
   . cases ht:W.D.ai.getD m none with
     |none=>rw[lS ht]
     |some t=>rw[(dU ht).1,hc];rfl
   . obtain⟨x1,ks',x2⟩:=x
     exact⟨x1,ks',B,rfl,x2⟩
  |some c=>
   obtain⟨t,ht,hcx⟩:=h.wf.cx m c hc;obtain⟨aC,kd,r,hst,hwf,hc1,hc2,hl1,hl2,BV,hmd,hk1,hk3,Y,MK,hr0,hoth,hlive,BS⟩:=h.wf.step hm hc (by have:=h.ct;omega) (by have:=h.lk;omega) (by omega);have hbz:(W.D.status m).busy=true:=by rw[(dU ht).1,hc];rfl
   have BU:W.D.aA<1000000000000000:=by have:=h.lk;omega
   have hid:=h.ids m hm;rw[ht] at hid;have hT:=h.wf.tx m t ht;have Gr:W.ids.getD m 0=(t.id - 1)+1:=by rw[hid];show t.id=_;have:=hT.i1;omega
   have WH:=h.wf.ti m t ht;have RF:t.id - 1<W.bq.length:=by rw[h.dl];have:=hT.i1;omega
   have hp:W.bq[t.id - 1]? =some W.bq[t.id - 1]:=ym RF;have hpl:=h.op _ _ hp;have hmk:=h.wf.sh.md;have hdl:=h.dl;have hgo:=h.go;have hct:=h.ct;have hlk:=h.lk;have WI:=h.sq
   by_cases hkd:kd=3
   . subst hkd
     obtain⟨hcn,hro,hrr⟩:=MK rfl
     by_cases hr:r.over=0
     . have hlv:=hro.1 hr
       obtain⟨t2,ht2⟩:=ou.1 hlv;refine⟨{W with D:=aC,bq:=W.bq.set (t.id - 1) {W.bq[t.id - 1] with ops:=W.bq[t.id - 1].ops++[(W.ops.getD m default,r)]}},⟨h.li.step hm hst hwf,by show aC.count<=_;omega,by show aC.aA<=_;omega,by show aC.seq<=_;omega,?_,h.i8,?_,?_,by show W.gone.length<=_;omega⟩,hmd,fun B V w0 ks w q=>?_⟩
       . show (W.bq.set _ _).length=aC.aB;rw[nD,hdl,hmd]
       . intro q hq
         show W.ids.getD q 0=tid (aC.ai.getD q none)
         by_cases e:q=m
         . subst e;rw[hid,ht2];exact (BS t t2 ht ht2).symm
         . rw[(hoth q e).1];exact h.ids q hq
       . intro k p Y
         change (W.bq.set _ _)[k]? =some p at Y;rw[List.getElem?_set] at Y
         split at Y
         . obtain rfl:=zj Y
           show (W.bq[t.id - 1].ops++[_]).length<=_;rw[jb];simp;omega
         . exact fq (h.op k p Y) (by omega)
       . exact wU q hm hst hbz hl2 hl1 BU hr Gr hp (by omega) (by omega) (dU ht2).2.1 (by rw[(dU ht2).1,hcn];rfl)
     . have hln:aC.ai.getD m none=none:=by
        cases e:aC.ai.getD m none with
        |none=>rfl
        |some t2=>exact absurd (hro.2 (by rw[e];rfl)) hr
       have ww:∀ st (gs:List Nat),gs.length<=n+3->WW N L (n+3) {W with D:=aC,bq:=W.bq.set (t.id - 1) {W.bq[t.id - 1] with state:=st,ay:=(W.D.status m).ay},ids:=W.ids.set m 0,gone:=gs}:=by
        intro st gs hgs;refine⟨h.li.step hm hst hwf,by show aC.count<=_;omega,by show aC.aA<=_;omega,by show aC.seq<=_;omega,?_,?_,?_,?_,hgs⟩
        . show (W.bq.set _ _).length=aC.aB;rw[nD,hdl,hmd]
        . show (W.ids.set m 0).length=8;rw[nD];exact h.i8
        . intro q hq
          show (W.ids.set m 0).getD q 0=tid (aC.ai.getD q none);rw[uJ _ _ _ _ (by rw[h.i8];exact hm)]
          by_cases e:q=m
          . rw[aW e,e,hln];rfl
          . rw[bu e,(hoth q e).1];exact h.ids q hq
        . intro k p Y
          change (W.bq.set _ _)[k]? =some p at Y;rw[List.getElem?_set] at Y
          split at Y
          . obtain rfl:=zj Y
            show W.bq[t.id - 1].ops.length<=_;omega
          . exact fq (h.op k p Y) (by omega)
       rcases hrr with hrr|hrr|hrr
       . exact absurd hrr hr
       . exact⟨_,ww 3 W.gone (by omega),hmd,fun B V w0 ks w q=>rG q hm hst hbz hl2 hl1 BU hrr Gr hp (by omega) (lS hln)⟩
       . exact⟨_,ww 4 (W.gone++[r.aI]) (by rw[jb];simp;omega),hmd,fun B V w0 ks w q=>wV q hm hst hbz hl2 hl1 BU hrr (by omega) Gr hp (by omega) (lS hln)⟩
   . have hr:=hr0 hkd
     subst hr;have hlv:=hlive.resolve_right hkd;obtain⟨t2,ht2⟩:=ou.1 hlv;obtain⟨c',hc',hw'⟩:=Y.resolve_left hkd;refine⟨{W with D:=aC},⟨h.li.step hm hst hwf,by show aC.count<=_;omega,by show aC.aA<=_;omega,by show aC.seq<=_;omega,hdl.trans hmd.symm,h.i8,?_,fun k p Y=>fq (h.op k p Y) (by omega),by show W.gone.length<=_;omega⟩,hmd,fun B V w0 ks w q=>?_⟩
     . intro q hq
       show W.ids.getD q 0=tid (aC.ai.getD q none)
       by_cases e:q=m
       . subst e;rw[hid,ht2];exact (BS t t2 ht ht2).symm
       . rw[(hoth q e).1];exact h.ids q hq
     . refine (uk q hm hst (by omega) hbz hl2 hl1 BU (by rw[(dU ht2).1,hc'];rfl) ?_).mono fun e E ⟨q1,ks',q2⟩=>⟨q1,ks',B,rfl,q2⟩
       unfold St.status;rw[ht2,hc'];exact hw'
theorem ML {B:dW} {V:Nat} {w0 w:World} {ks:List Kept} (h:WK B V w0 ks W w) (hok:nP W.D=true):
 zk 35 #[R V 0] w fun e E=>(∃ b,e=.returned (.bool b))∧WK B V w0 ks {W with D:=W.D.bX.1} E:=by
 obtain⟨A,rfl,l,r,g,t⟩:=h.ex;refine (Jg l hok).mono ?_;rintro e E ⟨rfl,A',s1,hL',g'⟩;have hbe:A'.V=A.V:=by obtain⟨⟨L,v,c,f,m,hc',gc,cs,rfl⟩,_⟩:=s1;rfl
 exact⟨⟨_,rfl⟩,WK.of l r g t hL' g' hbe⟩
theorem WW.bX (h:WW N L n W):WW N L (n+3) {W with D:=W.D.bX.1}∧W.D.bX.1.aB=W.D.aB∧W.D.aA<=W.D.bX.1.aA∧W.D.bX.1.aA<=W.D.aA+1:=by
 obtain⟨h1,h2,h3,h4,h5,h6,h7,h8,h9,h10⟩:=h.wf.bX;have hct:=h.ct;have hlk:=h.lk;have WI:=h.sq;have hgo:=h.go;refine⟨⟨h.li.bX.mono (by omega),by show W.D.bX.1.count<=_;omega,by show W.D.bX.1.aA<=_;omega,by show W.D.bX.1.seq<=_;omega,h.dl.trans h7.symm,h.i8,fun q hq=>?_,fun k p Y=>fq (h.op k p Y) (by omega),by show W.gone.length<=_;omega⟩,h7,h4,h5⟩;show W.ids.getD q 0=tid (W.D.bX.1.ai.getD q none);rw[h8];exact h.ids q hq
end
end Go.Proofs.YthicolbbmjfkfaaGreat.Em
namespace Go.Proofs.YthicolbbmjfkfaaGreat.Em
open Go.ChangeShapes Go.WideShapes Go.ChangeAt Go.RowKit En
open Cw (WF WC LI EI LK LZ aS eN turn)
structure WE (N L aa M zo:Nat) (W:Wd):Prop where
 ei:EI N L aa M W.D
 dl:W.bq.length=W.D.aB
 i8:W.ids.length=8
 ids:∀ s,s<8->W.ids.getD s 0=tid (W.D.ai.getD s none)
 op:∀ (k:Nat) (p:Dl),W.bq[k]? =some p->p.ops.length<=zo+W.D.aQ.length
 go:W.gone.length+W.D.al<=zo
section
variable {N L aa M zo n:Nat} {W:Wd}
theorem WE.up (h:WE N L aa M zo W) {M':Nat} (hM:M<=M'):WE N L aa M' zo W:=⟨⟨h.ei.li,fq h.ei.ct hM,fq h.ei.lk hM,fq h.ei.sq hM,h.ei.ga,h.ei.cu⟩,h.dl,h.i8,h.ids,h.op,h.go⟩
theorem Ur (D:St):D.al<=8:=by
 have h:∀ q,(if (D.ai.getD q none).isSome then 1 else 0)<=1:=fun q=>by split<;>omega
 have a0:=h 0;have a1:=h 1;have a2:=h 2;have a3:=h 3;have a4:=h 4;have a5:=h 5;have a6:=h 6;have a7:=h 7;unfold St.al Cw.pV;simp only;omega
theorem WW.WJ (h:WW N L n W):WE N L (n+18032) (8*n) (n+8) W:=by
 have hs:=h.sq;have hg:=h.go;have ha:=Ur W.D;exact⟨h.li.Wz h.ct h.lk (by omega),h.dl,h.i8,h.ids,fun k p Y=>by have:=h.op k p Y;omega,by omega⟩
theorem Jw {D aC:St} {m kd:Nat} {r:mo} {t:bL} {c:dY} (ht:D.ai.getD m none=some t) (hc:D.calls.getD m none=some c) (hst:ig D m=some (aC,kd,r)):turn D m=some aC:=by
 unfold turn;rw[ht,hc,hst];rfl
theorem Gs {D aC:St} {m:Nat} {t:bL} (ht:D.ai.getD m none=some t) (hc:D.calls.getD m none=none) (hst:jo D m Cw.jE=some aC):turn D m=some aC:=by
 unfold turn;rw[ht,hc];exact hst
theorem Jy {D:St} {m:Nat} (ht:D.ai.getD m none=none):turn D m=some D:=by
 unfold turn;rw[ht];rfl
theorem WE.RG (h:WE N L aa M zo W) (hG:2000<=aa) (Cc:aa<60000) (hM:M<900000000000) {m:Nat} (hm:m<8) {t:bL} (ht:W.D.ai.getD m none=some t) (hc:W.D.calls.getD m none=none):∃ W',WE N L aa (M+1) zo W'∧turn W.D m=some W'.D∧
 ∀ B V w0 ks w,WK B V w0 ks W w->zk 55 #[R B.bw 0,I m,.agg #[I 6,I 0,I 0,I 0]] w fun e E=>e=.returned (.bool true)∧WK B V w0 ks W' E:=by
 have BV:=h.ei.sq;obtain⟨aC,hi,hwf,hct,hlk,Ec,hmd,⟨c,hcc,hco⟩,htx,hoth,BS⟩:=h.ei.li.wf.kY hm ht hc (o:=Cw.jE) (by decide) (.inr (by decide)) (by omega) (by omega);obtain⟨WL,e1,Us,_⟩:=h.ei.turn hG (by omega) (by omega) hm;have e2:=Gs ht hc hi;rw[e2] at e1;obtain rfl:=zj e1;have hT:=h.ei.li.wf.tx m t ht;have hid:=h.ids m hm;have Jv:W.ids.getD m 0≠0:=by rw[hid,ht];show t.id≠0;have:=hT.i1;omega
 obtain⟨sb,sl,so⟩:=dU ht;have hbz:(aC.status m).busy=true:=by
  obtain⟨t2,ht2⟩:=ou.1 htx;rw[(dU ht2).1,hcc];rfl
 have WG:kX W m Cw.jE=some {W with D:=aC,ops:=W.ops.set m Cw.jE}:=by
  unfold kX;rw[hi];simp only;rw[aW ⟨by decide,Jv,by rw[sb,hc];rfl,.inr (by decide),hbz⟩]
 obtain⟨t',k',eF,t2,c2,p⟩:=h.ei.li.wf.BO hm hi;have htl:=(h.ei.li.ti.kY h.ei.li.wf p).2.2
 have hal : aC.al = W.D.al := Cw.Ii (fun q => by
   by_cases e:q=m
   . subst e;rw[ht,htx];rfl
   . rw[(hoth q e).1])
 refine⟨{W with D:=aC,ops:=W.ops.set m Cw.jE},⟨Us,h.dl.trans hmd.symm,h.i8,fun q hq=>?_,fun k p Y=>?_,?_⟩,e2,fun B V w0 ks w q=>pz q hm Cw.jE WG⟩
 . show W.ids.getD q 0=tid (aC.ai.getD q none)
   by_cases e:q=m
   . subst e
     obtain⟨t2,ht2⟩:=ou.1 htx;rw[hid,ht,ht2];exact (BS t2 ht2).symm
   . rw[(hoth q e).1];exact h.ids q hq
 . show p.ops.length<=zo+aC.aQ.length
   rw[htl];exact h.op k p Y
 . show W.gone.length+aC.al<=zo
   rw[hal];exact h.go
theorem WE.Ut (h:WE N L aa M zo W) (hG:2000<=aa) (Cc:aa<60000) (hD:zo<30000) (hM:M<900000000000) {m:Nat} (hm:m<8) {c:dY} (hc:W.D.calls.getD m none=some c):∃ W',WE N L aa (M+1) zo W'∧turn W.D m=some W'.D∧
 ∀ B V w0 ks w,WK B V w0 ks W w->zk 57 #[R B.bw 0,I m] w (Al B.bw V w0 ks W'):=by
 have hwf:=h.ei.li.wf;obtain⟨t,ht,hcx⟩:=hwf.cx m c hc;have hct:=h.ei.ct;have hlk:=h.ei.lk;have BV:=h.ei.sq;obtain⟨aC,kd,r,hst,Zw,hc1,hc2,hl1,hl2,Ec,hmd,hk1,hk3,Y,MK,hr0,hoth,hlive,BS⟩:=hwf.step hm hc (by omega) (by omega) (by omega);obtain⟨WL,e1,Us,_⟩:=h.ei.turn hG (by omega) (by omega) hm;have e2:=Jw ht hc hst;rw[e2] at e1;obtain rfl:=zj e1;have hbz:(W.D.status m).busy=true:=by rw[(dU ht).1,hc];rfl
 have BU:W.D.aA<1000000000000000:=by omega
 have hid:=h.ids m hm;rw[ht] at hid;have hT:=hwf.tx m t ht;have Gr:W.ids.getD m 0=(t.id - 1)+1:=by rw[hid];show t.id=_;have:=hT.i1;omega
 have WH:=hwf.ti m t ht;have hmk:=hwf.sh.md;have hdl:=h.dl;have RF:t.id - 1<W.bq.length:=by rw[hdl];have:=hT.i1;omega
 have hp:W.bq[t.id - 1]? =some W.bq[t.id - 1]:=ym RF;have hpl:=h.op _ _ hp;have hgo:=h.go;have hga:=h.ei.ga;have Zx:W.D.aQ.length<=aa:=by unfold St.Cb at hga;omega
 obtain⟨t',c',k',aK,ok,t2',c2',pp⟩:=hwf.parts hm hst;obtain⟨Zy,WM⟩:=pp.RD h.ei.li.ti hwf
 have Uu : (aC.ai.getD m none).isSome = true -> aC.al = W.D.al := fun hh => Cw.Ii (fun q => by
   by_cases e:q=m
   . subst e;rw[ht,hh];rfl
   . rw[(hoth q e).1])
 by_cases hkd:kd=3
 . subst hkd
   obtain⟨hcn,hro,hrr⟩:=MK rfl
   by_cases hr:r.over=0
   . have hlv:=hro.1 hr
     obtain⟨t2,ht2⟩:=ou.1 hlv;refine⟨{W with D:=aC,bq:=W.bq.set (t.id - 1) {W.bq[t.id - 1] with ops:=W.bq[t.id - 1].ops++[(W.ops.getD m default,r)]}},⟨Us,?_,h.i8,fun q hq=>?_,fun k p Y=>?_,?_⟩,e2,fun B V w0 ks w q=>?_⟩
     . show (W.bq.set _ _).length=aC.aB;rw[nD,hdl,hmd]
     . show W.ids.getD q 0=tid (aC.ai.getD q none)
       by_cases e:q=m
       . subst e;rw[hid,ht2];exact (BS t t2 ht ht2).symm
       . rw[(hoth q e).1];exact h.ids q hq
     . show p.ops.length<=zo+aC.aQ.length
       have:=WM rfl hr;change (W.bq.set _ _)[k]? =some p at Y;rw[List.getElem?_set] at Y
       split at Y
       . obtain rfl:=zj Y
         show (W.bq[t.id - 1].ops++[_]).length<=_;rw[jb,List.length_singleton];omega
       . have:=h.op k p Y;omega
     . show W.gone.length+aC.al<=zo
       rw[Uu hlv];exact hgo
     . exact wU q hm hst hbz hl2 hl1 BU hr Gr hp (by omega) (by omega) (dU ht2).2.1 (by rw[(dU ht2).1,hcn];rfl)
   . have hln:aC.ai.getD m none=none:=by
      cases e:aC.ai.getD m none with
      |none=>rfl
      |some t2=>exact absurd (hro.2 (by rw[e];rfl)) hr
     have Zz:aC.al+1=W.D.al:=Cw.Pq hm (fun q hq=>(hoth q hq).1) hln (by rw[ht];rfl);have ww:∀ st (gs:List Nat),gs.length<=W.gone.length+1->WE N L aa (M+1) zo {W with D:=aC,bq:=W.bq.set (t.id - 1) {W.bq[t.id - 1] with state:=st,ay:=(W.D.status m).ay},ids:=W.ids.set m 0,gone:=gs}:=by
      intro st gs hgs;refine⟨Us,?_,?_,fun q hq=>?_,fun k p Y=>?_,?_⟩
      . show (W.bq.set _ _).length=aC.aB;rw[nD,hdl,hmd]
      . show (W.ids.set m 0).length=8;rw[nD];exact h.i8
      . show (W.ids.set m 0).getD q 0=tid (aC.ai.getD q none)
        rw[uJ _ _ _ _ (by rw[h.i8];exact hm)]
        by_cases e:q=m
        . rw[aW e,e,hln];rfl
        . rw[bu e,(hoth q e).1];exact h.ids q hq
      . show p.ops.length<=zo+aC.aQ.length
        change (W.bq.set _ _)[k]? =some p at Y;rw[List.getElem?_set] at Y
        split at Y
        . obtain rfl:=zj Y
          show W.bq[t.id - 1].ops.length<=_;omega
        . have:=h.op k p Y;omega
      . show gs.length+aC.al<=zo
        omega
     rcases hrr with hrr|hrr|hrr
     . exact absurd hrr hr
     . exact⟨_,ww 3 W.gone (by omega),e2,fun B V w0 ks w q=>rG q hm hst hbz hl2 hl1 BU hrr Gr hp (by omega) (lS hln)⟩
     . exact⟨_,ww 4 (W.gone++[r.aI]) (by rw[jb];exact zr _),e2,fun B V w0 ks w q=>wV q hm hst hbz hl2 hl1 BU hrr (by omega) Gr hp (by omega) (lS hln)⟩
 . have hr:=hr0 hkd
   subst hr;have hlv:=hlive.resolve_right hkd;obtain⟨t2,ht2⟩:=ou.1 hlv;obtain⟨c',hc',hw'⟩:=Y.resolve_left hkd;refine⟨{W with D:=aC},⟨Us,hdl.trans hmd.symm,h.i8,fun q hq=>?_,fun k p Y=>?_,?_⟩,e2,fun B V w0 ks w q=>?_⟩
   . show W.ids.getD q 0=tid (aC.ai.getD q none)
     by_cases e:q=m
     . subst e;rw[hid,ht2];exact (BS t t2 ht ht2).symm
     . rw[(hoth q e).1];exact h.ids q hq
   . show p.ops.length<=zo+aC.aQ.length
     have:=h.op k p Y;omega
   . show W.gone.length+aC.al<=zo
     rw[Uu hlv];exact hgo
   . refine (uk q hm hst (by omega) hbz hl2 hl1 BU (by rw[(dU ht2).1,hc'];rfl) ?_).mono fun e E ⟨q1,ks',q2⟩=>⟨q1,ks',B,rfl,q2⟩
     unfold St.status;rw[ht2,hc'];exact hw'
end
theorem WE.ay {N L aa M zo:Nat} {W:Wd} (hE:WE N L aa M zo W) (hG:2000<=aa) (Cc:aa<60000) (hD:zo<30000) (hM:M<800000000000) {B:dW} {V:Nat} {w0 w:World} {ks:List Kept} {bF:St} (h:WK B V w0 ks W w) (ae:Nat) (hF:ae<=400000) (hr:eN ae 0 W.D=some bF):
 zk 18 #[R B.bw 0] w fun e E=>e=.returned (.bool true)∧∃ ks' B' W',B'.bw=B.bw∧WE N L aa (M+400000) zo W'∧W'.D=bF∧WK B' V w0 (ks'++ks) W' E:=by
 have H0:=U (zA h (zA hr (zA hF hE)));have HN:=U (zA hG (zA Cc (zA hD hM)));clear h hr hF hE hG Cc hD hM;go_enter Tryz.func18,Tryz.ntmps18;go_wp2
 go_loopw [3] (fun i wr=>∃ (k f:Nat) (ks':List Kept) (B':dW) (Wk:Wd),i=I k∧k+f<=400000∧B'.bw=B.bw∧WK B' V w0 (ks'++ks) Wk wr∧eN f k Wk.D=some bF∧WE N L aa (M+k) zo Wk) (fun i _=>400000 - (intOf i).toNat)
 case atStart=>exact⟨0,ae,[],B,W,rfl,by have:=H0.out.2.2.1;omega,rfl,H0.out.1,H0.out.2.1,H0.out.2.2.2⟩
 case round=>
  obtain⟨k,f,ks',B',Wk,rfl,Lf,hbw,hw,aU,Jz⟩:=hrel
  cases f with
  |zero=>cases aU
  |succ f=>
  unfold eN at aU;have b0:(k:Int)<400000:=by omega
  have b1:((k:Int)<400000)=True:=by simp;omega
  have n1:IntKind.i64.wrap ((k:Int)+1)=(k:Int)+1:=by rw[je];omega
  obtain⟨ll,hll⟩:∃ ll,ll=Wk.D.live.length:=⟨_,rfl⟩
  have N1:Hid (zk 13 #[R V 0] wr fun e E=>∃ av cap,e=.returned (.slice av ll cap)∧WK B' V w0 (ks'++ks) Wk E):=by rw[hll];exact Hm hw
  have x0:wr.cell? (J B.bw 0)=zs V 0:=by rw[<-hbw];exact (hw.fZ 0 rfl).1
  have C:Hid (∀ H,WK B' V w0 (ks'++ks) Wk H->H.cell? (J B.bw 0)=zs V 0):=fun H q=>by rw[<-hbw];exact (q.fZ 0 rfl).1
  by_cases hl0:Wk.D.live.length=0
  . rw[aW hl0] at aU
    obtain rfl:=zj aU;obtain rfl:ll=0:=hll.trans hl0;have HB:=U (zA hbw (Jz.up (M':=M+400000) (by omega)));clear hl0 hll hw hbw Lf aU Jz;go_wp2_with (go_at_call 13;refine N1.out.mono ?_;rintro e H ⟨av,cap,rfl,q⟩;have T1:=U q;clear q);go_ret;exact⟨rfl,ks',B',Wk,HB.out.1,HB.out.2,rfl,T1.out⟩
  . rw[bu hl0] at aU
    have l1:((ll:Int)==0)=false:=by simp;omega
    have l2:((ll:Int)=0)=False:=by simp;omega
    have l3:(ll=0)=False:=by simp;omega
    obtain⟨s,hs⟩:∃ s,s=k % 8:=⟨_,rfl⟩
    have EC:s<8:=by omega
    have t1:(k:Int).tmod 8=(s:Int):=by rw[hs];exact (Int.ofNat_tmod k 8).symm
    rw[<-hs] at aU;obtain⟨lv,bz,wt,a1,a2,a3,a4,a5,a6,hst,hlv,hbz⟩:∃ lv bz wt a1 a2 a3 a4 a5 a6,dF (Wk.D.status s)=#[.bool lv,.bool bz,.bool wt,I a1,I a2,I a3,zu a4,zu a5,I a6]∧lv=(Wk.D.status s).live∧bz=(Wk.D.status s).busy:=⟨_,_,_,_,_,_,_,_,_,rfl,rfl,rfl⟩
    have N2:Hid (∀ H,WK B' V w0 (ks'++ks) Wk H->zk 10 #[R V 0,I s] H fun e E=>e=.returned (.agg #[.bool lv,.bool bz,.bool wt,I a1,I a2,I a3,zu a4,zu a5,I a6])∧WK B' V w0 (ks'++ks) Wk E):=fun H q=>by
     have hh:=fF q s EC;rw[hst] at hh;exact hh
    have O1:Hid (∀ H g,WK B' V w0 (.obj g (.cells #[.bool lv,.bool bz,.bool wt,I a1,I a2,I a3,zu a4,zu a5,I a6] 42)::(ks'++ks)) Wk H->zB H g 0 lv∧zB H g 1 bz):=fun H g q=>by
     have Z:=q.obj (iG);exact⟨au Z 0 rfl,au Z 1 rfl⟩
    have HB:=U (zA hbw Lf);have HM:M+k<900000000000:=by have:=HN.out.2.2.2;omega
    clear hl0 hll hst hs
    cases lv with
    |false=>
     have ht:Wk.D.ai.getD s none=none:=by
      cases e:Wk.D.ai.getD s none with
      |none=>rfl
      |some t=>rw[(dU e).2.1] at hlv;cases hlv
     rw[Jy ht] at aU;have HR:=U (zA aU (Jz.up (M':=M+(k+1)) (by omega)));clear aU hw hbw Lf EC Jz ht hlv hbz HM;go_wp2_with (first|(go_at_call 13;refine N1.out.mono ?_;rintro e H ⟨av,cap,rfl,q⟩;have x1:=C.out _ q;have T1:=U q;clear q)|(go_at_call 10;refine (N2.out _ T1.out).mono ?_;rintro e w2 ⟨rfl,q⟩;have q2:=q.alloc (.cells #[.bool false,.bool bz,.bool wt,I a1,I a2,I a3,zu a4,zu a5,I a6] 42);obtain⟨y0,y1⟩:=O1.out _ _ q2;have T2:=U q2;clear q q2 T1))
     go_roundw
     case rel=>exact⟨k+1,f,_::ks',B',Wk,rfl,by have:=HB.out.2;omega,HB.out.1,T2.out,HR.out.1,HR.out.2⟩
     case measure=>simp[intOf];omega
    |true=>
     obtain⟨t,ht⟩:∃ t,Wk.D.ai.getD s none=some t:=by
      cases e:Wk.D.ai.getD s none with
      |none=>rw[lS e] at hlv;cases hlv
      |some t=>exact⟨t,rfl⟩
     rw[(dU ht).1] at hbz
     cases bz with
     |false=>
      have hc:Wk.D.calls.getD s none=none:=by simpa using hbz.symm
      obtain⟨W2,we2,Uv,hi⟩:=Jz.RG HN.out.1 HN.out.2.1 HM EC ht hc;rw[Uv] at aU
      . have N3:Hid (∀ H FI,WK B' V w0 FI Wk H->zk 55 #[R B.bw 0,I s,.agg #[I 6,I 0,I 0,I 0]] H fun e E=>e=.returned (.bool true)∧WK B' V w0 FI W2 E):=fun H FI q=>by
         rw[<-hbw];exact hi _ _ _ _ _ q
        have HR:=U (zA aU we2);clear aU hw hbw Lf EC hi we2 Uv hc ht hlv hbz Jz HM;go_wp2_with (first|(go_at_call 13;refine N1.out.mono ?_;rintro e H ⟨av,cap,rfl,q⟩;have x1:=C.out _ q;have T1:=U q;clear q)|(go_at_call 10;refine (N2.out _ T1.out).mono ?_;rintro e w2 ⟨rfl,q⟩;have q2:=q.alloc (.cells #[.bool true,.bool false,.bool wt,I a1,I a2,I a3,zu a4,zu a5,I a6] 42);obtain⟨y0,y1⟩:=O1.out _ _ q2;have T2:=U q2;clear q q2 T1)|(go_at_call 55;refine (N3.out _ _ T2.out).mono ?_;rintro e w3 ⟨rfl,q⟩;have T3:=U q;clear q T2))
        go_roundw
        case rel=>exact⟨k+1,f,_::ks',B',W2,rfl,by have:=HB.out.2;omega,HB.out.1,T3.out,HR.out.1,HR.out.2⟩
        case measure=>simp[intOf];omega
     |true=>
      obtain⟨c,hc⟩:=ou.1 hbz.symm;obtain⟨W2,we2,Uv,hi⟩:=Jz.Ut HN.out.1 HN.out.2.1 HN.out.2.2.1 HM EC hc;rw[Uv] at aU
      . have N4:Hid (∀ H FI,WK B' V w0 FI Wk H->zk 57 #[R B.bw 0,I s] H fun e E=>e=.returned (.bool true)∧∃ Q5 B2,B2.bw=B.bw∧WK B2 V w0 (Q5++FI) W2 E):=fun H FI q=>by
         rw[<-hbw];exact hi _ _ _ _ _ q
        have HR:=U (zA aU we2);clear aU hw hbw Lf EC hi we2 Uv hc ht hlv hbz Jz HM;go_wp2_with (first|(go_at_call 13;refine N1.out.mono ?_;rintro e H ⟨av,cap,rfl,q⟩;have x1:=C.out _ q;have T1:=U q;clear q)|(go_at_call 10;refine (N2.out _ T1.out).mono ?_;rintro e w2 ⟨rfl,q⟩;have q2:=q.alloc (.cells #[.bool true,.bool true,.bool wt,I a1,I a2,I a3,zu a4,zu a5,I a6] 42);obtain⟨y0,y1⟩:=O1.out _ _ q2;have T2:=U q2;clear q q2 T1)|(go_at_call 57;refine (N4.out _ _ T2.out).mono ?_;rintro e w3 ⟨rfl,Q5,B2,q0,q⟩;have T3:=U (zA q0 q);clear q0 q T2))
        go_roundw
        case rel=>exact⟨k+1,f,Q5++(_::ks'),B2,W2,rfl,by have:=HB.out.2;omega,T3.out.1,by have:=T3.out.2;rw[List.append_assoc];exact this,HR.out.1,HR.out.2⟩
        case measure=>simp[intOf];omega
end Go.Proofs.YthicolbbmjfkfaaGreat.Em
namespace Go.Proofs.YthicolbbmjfkfaaGreat.Em
open Go.ChangeShapes Go.WideShapes Go.ChangeAt Go.RowKit Go.Deep
structure Pk where
 kd:Int
 s:Int
 l:Int
 k:Int
 F:Int
 hi:Int
 v:Int
 deriving Inhabited
def qC (p:Pk):List Value:=[I p.kd,I p.s,I p.l,I p.k,I p.F,I p.hi,I p.v]
def ZA (p:Pk):Value:=.agg (qC p).toArray
def Ps (p:Pk):Prop:=∀ z∈[p.kd,p.s,p.l,p.k,p.F,p.hi,p.v],-9223372036854775808<=z∧z<9223372036854775808
def qD (l:List Pk):List Value:=l.flatMap qC
theorem tK (l:List Pk):(qD l).length=l.length*7:=by
 induction l with
 |nil=>rfl
 |cons a l ih=>show (qC a++qD l).length=_;rw[jb,ih,List.length_cons];show 7+_=_;omega
section
variable {zi:Type} {enc:TypeId×Value->zi} {w:World} {base:Nat} {spare:Nat->Bool} {held:Bool}
theorem nC {fuel:Nat} {c:Value} {x:DataW zi×List MemPlace} (h:DataW.trod enc Tryz.prog w base spare held fuel 3 [c]=some x):∃ a,c=I a∧-9223372036854775808<=a∧a<9223372036854775808:=by
 obtain⟨a,e,_,hw⟩:=DataW.trod_int Tryz.underlying3 h;simp at e;subst e;have:=bounds_i64 hw;exact⟨a,rfl,by omega,by omega⟩
theorem Pt {fuel:Nat} {c0 c1 c2 c3:Value} {x:DataW zi×List MemPlace} (h:DataW.trod enc Tryz.prog w base spare held fuel 27 [c0,c1,c2,c3]=some x):
 ∃ a0 a1 a2 a3,c0=I a0∧c1=I a1∧c2=I a2∧c3=I a3∧∀ z∈[a0,a1,a2,a3],-9223372036854775808<=z∧z<9223372036854775808:=by
 have hi:Tryz.prog.cellsOf 3=1:=by kernel_rfl
 obtain⟨xs,n,_,_,_,hl,hf⟩:=DataW.trod_struct Tryz.underlying27 h;obtain⟨y,hy⟩:∃ y,xs=y:=⟨_,rfl⟩
 match xs,hl with
 |[y0,y1,y2,y3],_=>
  have f0:DataW.trod enc Tryz.prog w base spare held n 3 (([c0,c1,c2,c3].drop 0).take (Tryz.prog.cellsOf 3))=some y0:=hf 0 _ rfl;rw[hi] at f0;have f1:DataW.trod enc Tryz.prog w base spare held n 3 (([c0,c1,c2,c3].drop 1).take (Tryz.prog.cellsOf 3))=some y1:=hf 1 _ rfl;rw[hi] at f1;have f2:DataW.trod enc Tryz.prog w base spare held n 3 (([c0,c1,c2,c3].drop 2).take (Tryz.prog.cellsOf 3))=some y2:=hf 2 _ rfl;rw[hi] at f2;have f3:DataW.trod enc Tryz.prog w base spare held n 3 (([c0,c1,c2,c3].drop 3).take (Tryz.prog.cellsOf 3))=some y3:=hf 3 _ rfl;rw[hi] at f3;obtain⟨a0,rfl,w0⟩:=nC f0;obtain⟨a1,rfl,H⟩:=nC f1;obtain⟨a2,rfl,w2⟩:=nC f2;obtain⟨a3,rfl,w3⟩:=nC f3;refine⟨a0,a1,a2,a3,rfl,rfl,rfl,rfl,?_⟩;intro z hz;simp at hz
  rcases hz with rfl|rfl|rfl|rfl<;>assumption
theorem Am {fuel:Nat} {cs:List Value} {x:DataW zi×List MemPlace} (h:DataW.trod enc Tryz.prog w base spare held fuel 59 cs=some x):∃ e:Pk,cs=qC e∧Ps e:=by
 have hi:Tryz.prog.cellsOf 3=1:=by kernel_rfl
 have ho:Tryz.prog.cellsOf 27=4:=by kernel_rfl
 have he:Tryz.prog.cellsOf 59=7:=by kernel_rfl
 obtain⟨xs,n,_,_,hc,hl,hf⟩:=DataW.trod_struct Tryz.underlying59 h;rw[he] at hc
 match cs,hc with
 |[c0,c1,c2,c3,c4,c5,c6],_=>
  match xs,hl with
  |[y0,y1,y2,y3],_=>
   have f0:DataW.trod enc Tryz.prog w base spare held n 3 (([c0,c1,c2,c3,c4,c5,c6].drop 0).take (Tryz.prog.cellsOf 3))=some y0:=hf 0 _ rfl;rw[hi] at f0;have f1:DataW.trod enc Tryz.prog w base spare held n 3 (([c0,c1,c2,c3,c4,c5,c6].drop 1).take (Tryz.prog.cellsOf 3))=some y1:=hf 1 _ rfl;rw[hi] at f1;have f2:DataW.trod enc Tryz.prog w base spare held n 3 (([c0,c1,c2,c3,c4,c5,c6].drop 2).take (Tryz.prog.cellsOf 3))=some y2:=hf 2 _ rfl;rw[hi] at f2;have f3:DataW.trod enc Tryz.prog w base spare held n 27 (([c0,c1,c2,c3,c4,c5,c6].drop 3).take (Tryz.prog.cellsOf 27))=some y3:=hf 3 _ rfl;rw[ho] at f3;obtain⟨a0,rfl,w0⟩:=nC f0;obtain⟨a1,rfl,H⟩:=nC f1;obtain⟨a2,rfl,w2⟩:=nC f2;obtain⟨a3,a4,a5,a6,rfl,rfl,rfl,rfl,w3⟩:=Pt f3;refine⟨⟨a0,a1,a2,a3,a4,a5,a6⟩,rfl,?_⟩;intro z hz;simp at hz
   rcases hz with rfl|rfl|rfl|rfl|rfl|rfl|rfl
   . exact w0
   . exact H
   . exact w2
   . exact w3 _ (by simp)
   . exact w3 _ (by simp)
   . exact w3 _ (by simp)
   . exact w3 _ (by simp)
theorem RZ {r:Reach} {b0:Nat} {v:Value} {d:DataW zi} {p:List MemPlace} (hv:Value.okWide Tryz.prog w r b0 59 v) (h:DataW.Trod enc Tryz.prog w base spare held 59 v d p):∃ e:Pk,v=ZA e∧Ps e:=by
 obtain⟨cs,rfl,_⟩:=okWide_struct Tryz.underlying59 hv;obtain⟨fuel,hf⟩:=h;obtain⟨e,he,hi⟩:=Am hf;refine⟨e,?_,hi⟩;have:cs.toList=qC e:=he;show Value.agg cs=_;rw[show cs=(qC e).toArray from by rw[<-this]];rfl
theorem JA (f:Nat->Pk) (n:Nat):∀ i,i<n->∀ j,j<7->(qD ((List.range n).map f))[i*7+j]? =(qC (f i))[j]? :=by
 intro i hi j hj;have F:∀ (l:List Pk) (i:Nat) (e:Pk),l[i]? =some e->(qD l)[i*7+j]? =(qC e)[j]? :=by
  intro l
  induction l with
  |nil=>intro i e h;simp at h
  |cons e0 l ih=>
   intro i e h;show (qC e0++qD l)[i*7+j]? =_
   cases i with
   |zero=>
    simp at h;subst h;rw[List.getElem?_append_left (by show 0*7+j<7;omega)];simp
   |succ i=>
    rw[EB (by show 7<=_;omega)];rw[show (i+1)*7+j - (qC e0).length=i*7+j from by show _ - 7=_;omega];exact ih i e (by simpa using h)
 exact F _ i (f i) (by simp[hi])
theorem Gt {r:Reach} {b0:Nat} {v:Value} {d:DataW zi} {p:List MemPlace} (hv:Value.okWide Tryz.prog w r b0 56 v) (h:DataW.Trod enc Tryz.prog w base spare held 56 v d p):
 ∃ es:List Pk,Ow.Row w 0 7 v (qD es)∧∀ e∈es,Ps e:=by
 have ZB:Tryz.prog.cellsOf 59=7:=by kernel_rfl
 obtain⟨a,len,cap,rfl⟩:=okWide_slice Tryz.underlying56 hv;obtain⟨fuel,hf⟩:=h
 rcases open_slice Tryz.underlying56 hf with ⟨h0,_⟩|⟨ad,len',cap',m,n,zo,Pl,hcs,Z,hl,hm,hmm,_,hi⟩
 . simp[Value.cells] at h0
   obtain⟨rfl,rfl,rfl⟩:=h0;exact⟨[],⟨none,0,0,rfl,rfl,by omega,by unfold maxLen;omega,.inl rfl⟩,by simp⟩
 . simp[Value.cells] at hcs
   obtain⟨rfl,rfl,rfl⟩:=hcs;have hle:len<=m:=by rw[hmm];split<;>omega
   have hex:∀ i,∃ e:Pk,i<len->(∀ j,j<7->w.cell? (ad.add (i*7+j))=(qC e)[j]?)∧Ps e:=by
    intro i
    by_cases hil:i<len
    . obtain⟨cs',hcells,htr⟩:=hi i (by omega)
      rw[ZB] at hcells;obtain⟨e,rfl,he⟩:=Am htr;obtain⟨_,_,hat⟩:=World.cells?_some hcells;refine⟨e,fun _=>⟨fun j hj=>?_,he⟩⟩;rw[<-add_add];exact hat j hj
    . exact⟨(default:Pk),fun h=>absurd h hil⟩
   obtain⟨f,hf'⟩:=Classical.axiomOfChoice hex;refine⟨(List.range len).map f,⟨some ad,len,cap,rfl,by rw[tK];simp,hl,hm,?_⟩,?_⟩
   . by_cases h0:len=0
     . exact .inl h0
     . right
       obtain⟨b,off,spot⟩:=ad;have hc0:=(hf' 0 (by omega)).1 0 (by omega);have hcell0:w.cell? ((⟨b,off,spot⟩:Addr).add (0*7+0))=some (I (f 0).kd):=hc0;have hspot:spot=none:=by simpa [Addr.add] using World.cell?_spot hcell0
       subst hspot;have hadd:∀ i,((J b off):Addr).add i=(J b (off+i)):=by
        intro i;unfold Addr.add;split
        . rename_i h;subst h;rfl
        . rfl
       refine⟨b,off,rfl,by omega,World.block_lt_of_cell? w (J b off) (by simpa [Addr.add] using hcell0),fun j hj=>?_⟩;have hd:j=(j / 7)*7+j % 7:=by omega
       rw[<-hadd j,hd,JA f len (j / 7) (by omega) (j % 7) (by omega)];exact (hf' (j / 7) (by omega)).1 (j % 7) (by omega)
   . intro e he
     rw[List.mem_map] at he;obtain⟨i,hi',rfl⟩:=he;exact (hf' i (by simpa using hi')).2
end
end Go.Proofs.YthicolbbmjfkfaaGreat.Em
namespace Go.Proofs.YthicolbbmjfkfaaGreat.Em
open Go.ChangeShapes Go.WideShapes Go.ChangeAt Go.RowKit En
theorem WW.ZC {N L n:Nat} {W:Wd} (h:WW N L n W) (hn:n<100000) (hmd:W.D.aB<2000) (p:Pk):∃ W',WW N L (n+3) W'∧W'.D.aB<=W.D.aB+1∧
 ∀ B V w0 ks w,WK B V w0 ks W w->zk 17 #[R B.bw 0,.agg #[I p.kd,I p.s,I p.l,I p.k,I p.F,I p.hi,I p.v]] w (Al B.bw V w0 ks W'):=by
 obtain⟨kd,s,l,k,F,hi,v⟩:=p;simp only
 by_cases h0:kd=0
 . subst h0
   obtain⟨W',h1,h2,h3⟩:=h.aJ (by omega) hmd s l;refine⟨W',h1,h2,?_⟩;intro B V w0 ks w q;have qa:=q.alloc (.cells #[I 0,I s,I l,I k,I F,I hi,I v] 59);have Z:=qa.obj iG;have z0:=au Z 0 rfl;have z1:=au Z 1 rfl;have z2:=au Z 2 rfl;have z3:=au Z 3 rfl;have z4:=au Z 4 rfl;have z5:=au Z 5 rfl;have z6:=au Z 6 rfl;clear Z;have HC:=U (h3 B V w0 _ _ qa);clear h h1 h2 h3 hn hmd q qa;go_enter Tryz.func17,Tryz.ntmps17;go_wp2_with (go_at_call 54;refine HC.out.mono ?_;rintro e H ⟨rfl,qq⟩;have TR:=U qq;clear qq);go_ret;obtain⟨ks',B',hb1,hb2⟩:=TR.out;exact⟨rfl,ks'++[_],B',hb1,by rw[List.append_assoc];exact hb2⟩
 by_cases h1:kd=1
 . subst h1
   clear h0;obtain⟨W',h1,h2,h3⟩:=h.kY (by omega) s k F hi v;refine⟨W',h1,by omega,?_⟩;intro B V w0 ks w q;have qa:=q.alloc (.cells #[I 1,I s,I l,I k,I F,I hi,I v] 59);have Z:=qa.obj iG;have z0:=au Z 0 rfl;have z1:=au Z 1 rfl;have z2:=au Z 2 rfl;have z3:=au Z 3 rfl;have z4:=au Z 4 rfl;have z5:=au Z 5 rfl;have z6:=au Z 6 rfl;clear Z;have HC:=U (h3 B V w0 _ _ qa);clear h h1 h2 h3 hn hmd q qa;go_enter Tryz.func17,Tryz.ntmps17;go_wp2_with (go_at_call 55;refine HC.out.mono ?_;rintro e H ⟨rfl,qq⟩;have TR:=U qq;clear qq);go_ret;obtain⟨ks',B',hb1,hb2⟩:=TR.out;exact⟨rfl,ks'++[_],B',hb1,by rw[List.append_assoc];exact hb2⟩
 by_cases h6:kd=6
 . subst h6
   clear h0 h1;obtain⟨k1,k2,k3,k4⟩:=h.bX;refine⟨_,k1,by show W.D.bX.1.aB<=_;omega,?_⟩;obtain⟨lk,hlk⟩:∃ lk,lk=W.D.aA:=⟨_,rfl⟩
   obtain⟨ni,og⟩:∃ ni,ni=W.D.bX.1.aA:=⟨_,rfl⟩
   have hlb:lk<10000000:=by have:=h.lk;omega
   rw[<-hlk,<-og] at k4;have hok:nP W.D=true:=h.wf.nP (by omega) (by have:=h.ct;omega) (by have:=h.lk;omega);intro B V w0 ks w q;have qa:=q.alloc (.cells #[I 6,I s,I l,I k,I F,I hi,I v] 59);have Z:=qa.obj iG;have z0:=au Z 0 rfl;have z1:=au Z 1 rfl;have z2:=au Z 2 rfl;have z3:=au Z 3 rfl;have z4:=au Z 4 rfl;have z5:=au Z 5 rfl;have z6:=au Z 6 rfl;clear Z;have c1:((ni:Int)<=(lk:Int)+1)=True:=by simp;omega
   have c2:decide ((ni:Int)<=(lk:Int)+1)=true:=by simp;omega
   have n1:IntKind.i64.wrap ((lk:Int)+1)=(lk:Int)+1:=by rw[je];omega
   have x0:=(qa.fZ 0 rfl).1;have N1:Hid (∀ ks H,WK B V w0 ks W H->zk 56 #[R V 0] H fun e E=>e=.returned (I lk)∧H=E):=fun ks H q=>by
    have hh:=iR q;rw[<-hlk] at hh;exact hh
   have N2:Hid (∀ ks H,WK B V w0 ks {W with D:=W.D.bX.1} H->zk 56 #[R V 0] H fun e E=>e=.returned (I ni)∧H=E):=fun ks H q=>by
    have hh:=iR q;rw[<-og] at hh;exact hh
   have N3:=U (ML qa hok);have C:Hid (∀ bF ks H,WK B V w0 ks {W with D:=bF} H->H.cell? (J B.bw 0)=zs V 0):=fun bF ks H q=>(q.fZ 0 rfl).1
   have T0:=U qa;clear h hn hmd q qa hlk og k1 k2 k3 k4 hlb hok;go_enter Tryz.func17,Tryz.ntmps17;go_wp2_with (first|(go_at_call 56;refine (N1.out _ _ T0.out).mono ?_;rintro e E ⟨rfl,rfl⟩;have T1:=T0;clear T0)|(go_at_call 35;refine N3.out.mono ?_;rintro e w2 ⟨⟨b,rfl⟩,q⟩;have x2:=C.out _ _ _ q;have T2:=U q;clear q)|(go_at_call 56;refine (N2.out _ _ T2.out).mono ?_;rintro e E ⟨rfl,rfl⟩));go_ret;exact⟨rfl,[_],B,rfl,T2.out⟩
 . have f0:(kd==0)=false:=by simpa using h0
   have f1:(kd==1)=false:=by simpa using h1
   have f6:(kd==6)=false:=by simpa using h6
   have e0:(kd=0)=False:=by simpa using h0
   have e1:(kd=1)=False:=by simpa using h1
   have e6:(kd=6)=False:=by simpa using h6
   obtain⟨W',h1',h2,h3⟩:=h.step hn s;refine⟨W',h1',by omega,?_⟩;intro B V w0 ks w q;have qa:=q.alloc (.cells #[I kd,I s,I l,I k,I F,I hi,I v] 59);have Z:=qa.obj iG;have z0:=au Z 0 rfl;have z1:=au Z 1 rfl;have z2:=au Z 2 rfl;have z3:=au Z 3 rfl;have z4:=au Z 4 rfl;have z5:=au Z 5 rfl;have z6:=au Z 6 rfl;clear Z;have HC:=U (h3 B V w0 _ _ qa);clear h h0 h1 h6 h1' h2 h3 hn hmd q qa;go_enter Tryz.func17,Tryz.ntmps17;go_wp2_with (go_at_call 57;refine HC.out.mono ?_;rintro e H ⟨rfl,qq⟩;have TR:=U qq;clear qq);go_ret;obtain⟨ks',B',hb1,hb2⟩:=TR.out;exact⟨rfl,ks'++[_],B',hb1,by rw[List.append_assoc];exact hb2⟩
theorem JB {w:World} {g off:Nat} {l:List Pk} (h:∀ j,j<l.length*7->w.cell? (J g (off+j))=(qD l)[j]?) (i:Nat) (e:Pk) (hi:l[i]? =some e):
 ∀ f,f<7->w.cell? (J g (off+(i*7+f)))=(qC e)[f]? :=by
 intro f hf;have hl:i<l.length:=(List.getElem?_eq_some_iff.1 hi).1;rw[h (i*7+f) (by omega)];have F:∀ (l:List Pk) (i:Nat),l[i]? =some e->(qD l)[i*7+f]? =(qC e)[f]? :=by
  intro l
  induction l with
  |nil=>intro i hi;simp at hi
  |cons e0 l ih=>
   intro i hi;show (qC e0++qD l)[i*7+f]? =_
   cases i with
   |zero=>
    simp at hi;subst hi;rw[List.getElem?_append_left (by show 0*7+f<7;omega)];simp
   |succ i=>
    rw[EB (by show 7<=_;omega)];rw[show (i+1)*7+f - (qC e0).length=i*7+f from by show _ - 7=_;omega];exact ih i (by simpa using hi)
 exact F l i hi
theorem JC {w:World} {v:Value} {l:List Pk} (h:Ow.Row w 0 7 v (qD l)):∃ a cap,v=.slice a l.length cap∧l.length<=9223372036854775807∧∀ i e,l[i]? =some e->∃ g off,a=za g off∧∀ E,Below w.heap.size w E->∀ f u,f<7->(qC e)[f]? =some u->E.cell? (J g (off+(i*7+f)))=some u:=by
 obtain⟨a,n,cap,rfl,hn,hc,hm,h5⟩:=h;rw[tK] at hn;obtain rfl:n=l.length:=by omega
 unfold maxLen at hm;refine⟨a,cap,rfl,by omega,fun i e hi=>?_⟩;have hl:i<l.length:=(List.getElem?_eq_some_iff.1 hi).1
 rcases h5 with h5|⟨g,off,rfl,_,hg,hcell⟩
 . omega
 . refine⟨g,off,rfl,fun E Z f u hf hu=>?_⟩
   rw[Z.cell (p:=(J g (off+(i*7+f)))) hg,JB hcell i e hi f hf,hu]
end Go.Proofs.YthicolbbmjfkfaaGreat.Em
namespace Go.Proofs.YthicolbbmjfkfaaGreat.Em
open Go.ChangeShapes Go.WideShapes Go.ChangeAt Go.RowKit En
open Cw (om jQ TT eN)
section
variable {B:dW} {V:Nat} {w0 w E:World} {ks:List Kept} {W:Wd}
theorem WW.WN {N L:Nat} (h1:N<=256) (h2:L<=1099511627776):WW N L 0 (DI N L):=by
 refine⟨Cw.LI.new h1 h2,zz _,zz _,zz _,rfl,rfl,fun s hs=>?_,fun k p Y=>by simp[DI] at Y,zz _⟩;show (List.replicate 8 0).getD s 0=tid ((List.replicate 8 none).getD s none);rw[mM,mM,List.getElem?_replicate,List.getElem?_replicate,aW hs,aW hs];rfl
theorem WK.JD (h:WK B V w0 ks W w) (o:Obj):WK B V w0 (.far w.heap.size o::ks) W (w.alloc o):=by
 obtain⟨A,rfl,l,r,g,t⟩:=h.ex;obtain⟨_,g1,t1,t2⟩:=l.rep.o5 o
 exact ⟨A.tmp w.heap.size, rfl, l.o5 o, r.grow g1 rfl W.D, g.trans g1, ⟨⟨⟨t1, t2⟩, (KW.grow g1 t).1⟩, fun b p hm => by
   rcases List.mem_cons.1 hm with e|hm
   . cases e;exact r.mem.fresh _ (zr _)
   . exact t.2 b p hm⟩⟩
theorem WK.MM {g:Nat} {o:Obj} (h:WK B V w0 (.far g o::ks) W w):w.heap[g]? =some o:=by
 obtain⟨A,rfl,l,r,gr,t⟩:=h.ex;exact t.1.1.2
theorem WK.Pw {g:Nat} {o o':Obj} (h:WK B V w0 [.far g o] W w) (Z:But g w E) (ho:E.heap[g]? =some o'):WK B V w0 [.far g o'] W E:=by
 obtain⟨A,rfl,l,r,gr,t⟩:=h.ex;have hl:A.L g=some .tmp:=t.1.1.1;have hM:B.M g=none:=t.2 g o iG;refine⟨A,rfl,l.but hl Z,r.soft rfl r.tie ?_ (Z.soft hl) W.D,gr.but ?_ Z,⟨⟨hl,ho⟩,trivial⟩,fun b p hm=>?_⟩
 . refine r.mem.upd .bT ?_ (fun _ _=>rfl) (fun b q hb' hl' hq=>Z.block b ?_) (fun _ _=>rfl) (fun b hb'=>r.mem.fresh b (by rw[<-Z.size];exact hb'))
   . have he:=r.mem.all .bT
     have hne:B.bw≠g:=by
      rintro e;have:B.M B.bw=some .bT:=he.1;rw[e,hM] at this;cases this
     exact⟨he.1,(Z.block _ hne).trans he.2⟩
   . rintro rfl
     rw[hM] at hl';cases hl'
 . rcases Nat.lt_or_ge g w0.heap.size with h1|h1
   . rw[gr.lab _ h1] at hl;cases hl
   . exact h1
 . rcases List.mem_cons.1 hm with e|hm
   . cases e;exact hM
   . cases hm
theorem Px (h:WK B V w0 ks W w) (hn:W.D.aQ.length<100000) (hp:∀ e∈W.D.aQ,e.res.aL.length<=64):
 zk 15 #[R V 0] w fun e E=>∃ v cs,e=.returned v∧E.ownsRow w.heap.size 62 12 v W.D.aQ.length cs∧DW w.heap.size E W.D.aQ cs∧Below w.heap.size w E:=by
 obtain⟨A,rfl,l,r,g,t⟩:=h.ex;exact LQ l.rep hn (fun e he=>fq (hp e he) (by decide))
end
theorem DW.at' {base:Nat} {w:World}:∀ {l:List Ev} {xs:List Value},DW base w l xs->∀ {k:Nat} {e:Ev},l[k]? =some e->xs[k*12]? =some (i64 e.kind)∧xs[k*12+1]? =some (i64 e.t)∧xs[k*12+2]? =some (u64 e.n)
 |[],_,_,_,_,h=>by cases h
 |e'::l,xs,⟨vp,ys,h1,h2,h3⟩,0,e,h=>by
  obtain rfl:e'=e:=by simpa using h
  rw[h1];exact⟨rfl,rfl,rfl⟩
 |e'::l,xs,⟨vp,ys,h1,h2,h3⟩,k+1,e,h=>by
  obtain⟨g1,g2,g3⟩:=DW.at' h3 (k:=k) (e:=e) (by simpa using h);have hh:∀ j,xs[(k+1)*12+j]? =ys[k*12+j]? :=fun j=>by
   rw[h1,EB (by show 12<=_;omega),show (k+1)*12+j - (pU e' vp).length=k*12+j by show _ - 12=_;omega]
  exact⟨(hh 0).trans g1,(hh 1).trans g2,(hh 2).trans g3⟩
theorem Gu {base:Nat} {w:World} {v:Value} {l:List Ev} {cs:List Value} (h:w.ownsRow base 62 12 v l.length cs) (he:DW base w l cs):∀ k e,l[k]? =some e->∃ g cap,v=.slice (some (J g 0)) l.length cap∧base<=g∧∀ H:World,H.heap[g]? =w.heap[g]? ->
 H.cell? ⟨g,k*12,none⟩=some (i64 e.kind)∧H.cell? ⟨g,k*12+1,none⟩=some (i64 e.t)∧H.cell? ⟨g,k*12+2,none⟩=some (u64 e.n):=by
 intro k e Y;have hlt:k<l.length:=by
  rw[List.getElem?_eq_some_iff] at Y;exact Y.1
 rcases h.2 with ⟨_,h0⟩|⟨g,cap,cur,hv,Z,hg,hnc,hcm,hsz,htk⟩
 . omega
 . refine⟨g,cap,hv,Z,fun H e1=>?_⟩
   obtain⟨a1,a2,a3⟩:=he.at' Y;have hc:∀ j x,k*12+j<l.length*12->cs[k*12+j]? =some x->H.cell? ⟨g,k*12+j,none⟩=some x:=by
    intro j x hj hx;rw[<-htk,List.getElem?_take,aW hj] at hx;have:H.heap[g]? =some (.cells cur 62):=e1.trans hg;unfold World.cell?
    simp only[this];rw[<-Array.getElem?_toList];exact hx
   exact⟨hc 0 _ (by omega) a1,hc 1 _ (by omega) a2,hc 2 _ (by omega) a3⟩
theorem JE:Tryz.zeroCells60=((List.replicate 2001 0).map u64).toArray:=by kernel_rfl
theorem cell_of_heap {w:World} {g:Nat} {l:List Value} {T:TypeId} (h:w.heap[g]? =some (.cells l.toArray T)) (i:Nat) {v:Value} (hv:l[i]? =some v):w.cell? (J g i)=some v∧w.frozen? (J g i)=false:=
 ⟨au h i (by simpa using hv),by unfold World.frozen?;rw[h];simp⟩
open Cw in
theorem JF {l:List Ev} {a b:Nat×List Nat} (h:om l a=some b):∀ k,k<=l.length->∃ c,om (l.take k) a=some c∧∀ e,l[k]? =some e->∃ d,jQ c e=some d∧om (l.take (k+1)) a=some d:=by
 induction l generalizing a with
 |nil=>intro k Y;exact⟨a,by rw[List.take_nil];rfl,fun e he=>by simp at he⟩
 |cons x l ih=>
  intro k Y;have h':(match jQ a x with|some c=>om l c|none=>none)=some b:=h
  cases e1:jQ a x with
  |none=>rw[e1] at h';cases h'
  |some c=>
   rw[e1] at h'
   cases k with
   |zero=>
    refine⟨a,rfl,fun e he=>?_⟩;obtain rfl:x=e:=by simpa using he
    refine⟨c,e1,?_⟩;show (match jQ a x with|some c=>om (l.take 0) c|none=>none)=_;rw[e1];rfl
   |succ k=>
    obtain⟨c',g1,g2⟩:=ih h' k (by simpa using Y);refine⟨c',?_,fun e he=>?_⟩
    . show (match jQ a x with|some c=>om (l.take k) c|none=>none)=_
      rw[e1];exact g1
    . obtain⟨d,g3,g4⟩:=g2 e (by simpa using he)
      refine⟨d,g3,?_⟩;show (match jQ a x with|some c=>om (l.take (k+1)) c|none=>none)=_;rw[e1];exact g4
theorem RH (vl:Value) (es:List Pk) (w0:World) (hv:Ow.Row w0 0 7 vl (qD es)):
 zk 4 #[vl] w0 fun e E=>e=.returned (.bool true)∧Below w0.heap.size w0 E:=by
 obtain⟨a,cap,rfl,hmax,hrow⟩:=JC hv;clear hv;obtain⟨n,hn⟩:∃ n,n=es.length:=⟨_,rfl⟩
 rw[<-hn] at hmax;rw[<-hn];have HN:Hid (zk 7 #[I 30,zu 300] w0 fun e E=>∃ B V,e=.returned (R B.bw 0)∧WK B V w0 [] (DI 30 300) E):=U (DJ 30 300 (by omega) (by omega) (by omega) (by omega) _);have HA:=U OP;have HR:Hid (∀ i e,es[i]? =some e->∃ g off,a=za g off∧∀ E,Below w0.heap.size w0 E->∀ f u,f<7->(qC e)[f]? =some u->E.cell? (J g (off+(i*7+f)))=some u):=hrow;have HL:=U hn;clear hrow hn;go_enter Tryz.func4,Tryz.ntmps4;go_upto_region 2 with (go_at_call 7;refine HN.out.mono ?_;rintro e H ⟨B,V,rfl,q⟩;have T0:=U q;clear q HN)
 obtain⟨bw,hbw⟩:∃ bw,bw=B.bw:=⟨_,rfl⟩
 rw[<-hbw];have H0:=U (zA T0.out hbw);clear T0 hbw;have C:Hid (∀ (B:dW) ks W H,B.bw=bw->WK B V w0 ks W H->H.cell? (J bw 0)=zs V 0):=fun B ks W H e q=>by rw[<-e];exact (q.fZ 0 rfl).1
 go_wp2_with fail
 go_loopw [4] (fun i wr=>∃ (m:Nat) (ks:List Kept) (B':dW) (W:Wd),i=I m∧m<=200∧m<=n∧B'.bw=bw∧WW 30 300 (3*m) W∧W.D.aB<=m∧WK B' V w0 ks W wr) (fun i _=>200 - (intOf i).toNat)
 case atStart=>exact⟨0,[],B,_,rfl,by omega,by omega,H0.out.2.symm,WW.WN (by omega) (by omega),zr _,H0.out.1⟩
 case round=>
  clear H0;obtain⟨m,ks,B',W,rfl,hm1,hm2,hbw,hW,hmd,q⟩:=hrel;have n1:IntKind.i64.wrap ((m:Int)+1)=(m:Int)+1:=by rw[je];omega
  by_cases hlt:m<200∧m<n
  . obtain⟨hl1,hl2⟩:=hlt
    obtain⟨e,he⟩:∃ e,es[m]? =some e:=⟨es[m]'(by rw[<-HL.out];exact hl2),ym _⟩
    obtain⟨g,off,rfl,hr⟩:=HR.out m e he;obtain⟨W',hW',Uw,hdo⟩:=hW.ZC (by omega) (by omega) e;obtain⟨ZE,ZF,el,ek,WO,ZG,ev⟩:=e;have hd:=hdo B' V w0 ks wr q;rw[hbw] at hd;have HD:=U hd;have hr2:=hr wr q.toBelow;have c0:=hr2 0 (I ZE) (by omega) rfl;have c1:=hr2 1 (I ZF) (by omega) rfl;have c2:=hr2 2 (I el) (by omega) rfl;have c3:=hr2 3 (I ek) (by omega) rfl;have c4:=hr2 4 (I WO) (by omega) rfl;have c5:=hr2 5 (I ZG) (by omega) rfl;have c6:=hr2 6 (I ev) (by omega) rfl;simp only[Nat.add_zero,<-Nat.add_assoc] at c0 c1 c2 c3 c4 c5 c6;have i1:(0:Int)<=(m:Int):=by omega
    have i2:(m:Int)<(n:Int):=by omega
    have i3:(m:Int)<200:=by omega
    have HQ:=U (zA hW' (zA Uw (zA hmd (zA hm1 hm2))));have x0:=C.out _ _ _ _ hbw q;clear hd hdo hr hr2 hW hW' hmd Uw q hbw he hm2;go_wp2_with (go_at_call 17;refine HD.out.mono ?_;rintro e H ⟨rfl,ks',B'',Z,q⟩;have T1:=U (zA Z q);clear Z q)
    go_roundw
    case rel=>exact⟨m+1,_,_,W',rfl,by omega,by omega,T1.out.1,HQ.out.1.mono (by omega),by have:=HQ.out.2.1;have:=HQ.out.2.2.1;omega,T1.out.2⟩
    case measure=>simp[intOf];omega
  . have hlt2:m<n->¬ m<200:=fun a b=>hlt ⟨b,a⟩
    have hE:=hW.WJ;obtain⟨ae,bF,hF,hen,hlv⟩:=hE.ei.eN (by omega) (by omega) (by omega) (by omega);have hend:=hE.ay (by omega) (by omega) (by omega) (by omega) q ae (by omega) hen;rw[hbw] at hend;have HE:=U hend;have HM:Hid (3*m<=600):=by have:=hm1;show 3*m<=600;omega
    clear hE hen hlv hend hW hmd q hbw hF hlt n1
    by_cases xJ:m<n
    case' pos=>
     have i1:decide ((m:Int)<(n:Int))=true:=by simp;omega
     have i2:((m:Int)<(n:Int))=True:=by simp;omega
     have i3:decide (m<n)=true:=by simp;omega
     have i4:(m<n)=True:=by simp;omega
     have j1:decide ((m:Int)<200)=false:=by simp;have:=hlt2 xJ;omega
     have j2:((m:Int)<200)=False:=by simp;have:=hlt2 xJ;omega
     have j3:decide (m<200)=false:=by simp;have:=hlt2 xJ;omega
     have j4:(m<200)=False:=by simp;have:=hlt2 xJ;omega
    case' neg=>
     have i1:decide ((m:Int)<(n:Int))=false:=by simp;omega
     have i2:((m:Int)<(n:Int))=False:=by simp;omega
     have i3:decide (m<n)=false:=by simp;omega
     have i4:(m<n)=False:=by simp;omega
    all_goals
     clear hlt2 hm2 xJ hm1
     go_upto_region 14 with (first
       |(go_at_call 18;refine HE.out.mono ?_;rintro e H ⟨rfl,ks',B2,W2,Z,Jz,hσ,q⟩;have q2:=q.drop.JD (.cells Tryz.zeroCells60 60);have x1:=C.out _ _ _ _ Z q2;have NT:=U (Px q2 (by have hm:=HM.out;have hg:=Jz.ei.ga;unfold St.Cb at hg;omega) Jz.ei.li.wf.sh.tp);have HQ:=U (zA Z (zA Jz q2));clear Z Jz hσ q q2)
       |(go_at_call 15;refine NT.out.mono ?_;rintro e w2 ⟨v,cs,rfl,ho,hev,hbl⟩;obtain⟨ta,tc,rfl,_⟩:=Ow.bO ho;have HT:=U (zA ho (zA hev (HQ.out.2.2.below hbl)));clear ho hev hbl NT))
     obtain⟨bs,hbs,WQ⟩:=HQ.out.2.1.ei.li.tt;obtain⟨g,hg⟩:∃ g,g=H.heap.size:=⟨_,rfl⟩
     have hgs:(H.alloc (.cells Tryz.zeroCells60 60)).heap.size=g+1:=by rw[hg];exact Array.size_push _
     have HZ:=HT.out.2.2;rw[<-hg,JE] at HZ;have HC:=Gu HT.out.1 HT.out.2.1;rw[hgs] at HC;have HW:Hid (W2.D.word 0<18446744073709551616):=(HQ.out.2.1.ei.li.wf.sh.wd 0).u;have ZH:Hid (W2.D.now=aj (W2.D.word 0)):=rfl;have HB2:=U HQ.out.1;have hlen:W2.D.aQ.length<=20000:=by have hm:=HM.out;have hg:=HQ.out.2.1.ei.ga;unfold St.Cb at hg;omega
     rw[<-hg];clear HQ HT hg hgs WQ x1 HE;obtain⟨tl,htl⟩:∃ tl,tl=W2.D.aQ:=⟨_,rfl⟩
     rw[<-htl] at hbs HC hlen;rw[<-htl];obtain⟨tn,htn⟩:∃ tn,tn=tl.length:=⟨_,rfl⟩
     rw[<-htn];have XO:=U hbs;have MR:=U HC;have ZI:=U HZ;have MN:=U htn;clear hbs HC HZ htl htn;go_wp2_with fail
     go_loopw [5,8] (fun x y wr=>∃ (k last:Nat) (bs bl:List Nat),x=zu last∧y=I k∧k<=tl.length∧last<=k∧om (tl.take k) (0,[])=some (last,bs)∧bl.length=2001∧(∀ T∈bs,∃ b,bl[T]? =some b∧1<=b∧b<=last)∧WK B2 V w0 [.far g (.cells (bl.map u64).toArray 60)] W2 wr∧∀ h,h≠g->wr.heap[h]? =w2.heap[h]?) (fun x y _=>tn - (intOf y).toNat)
     case atStart=>exact⟨0,0,[],List.replicate 2001 0,rfl,rfl,zz _,zr _,rfl,List.length_replicate,fun T hT=>(by cases hT),ZI.out,fun _ _=>rfl⟩
     case round=>
      obtain⟨k,last,WR,bl,rfl,rfl,hk1,hl1,aU,hbl,hbb,hz,hsame⟩:=hrel;have n1:IntKind.i64.wrap ((k:Int)+1)=(k:Int)+1:=by rw[je];omega
      have n2:IntKind.u64.wrap ((last:Int)+1)=(last:Int)+1:=by rw[IntKind.wrap_u64];omega
      by_cases hkt:k<tl.length
      . have k0:(0:Int)<=(k:Int):=by omega
        have k1:decide ((k:Int)<(tn:Int))=true:=by simp;rw[MN.out];exact hkt
        have k2:((k:Int)<(tn:Int))=True:=by simp;rw[MN.out];exact hkt
        have k3:decide (k<tn)=true:=by simp;rw[MN.out];exact hkt
        have k4:(k<tn)=True:=by simp;rw[MN.out];exact hkt
        obtain⟨e,he⟩:∃ e,tl[k]? =some e:=⟨tl[k],ym hkt⟩
        obtain⟨th,ZJ,UT,hgh,hcell⟩:=MR.out k e he;obtain⟨rfl,-⟩:=(Value.slice.injEq _ _ _ _ _ _ ▸ UT:ta=za th 0∧_)
        obtain⟨c0,c1,c2⟩:=hcell wr (hsame th (by omega));obtain⟨c',hc1,hc2⟩:=JF XO.out k hk1;rw[aU] at hc1;obtain rfl:=zj hc1;obtain⟨d,hd1,hd2⟩:=hc2 e he;obtain⟨ek,et,en,eop,ere⟩:=e;simp only[Em.i64,Em.u64] at c0 c1 c2;clear hcell hc1 hc2 UT he;unfold jQ at hd1;simp only at hd1
        by_cases e1:ek=1
        . rw[aW e1] at hd1
          split at hd1
          . rename_i hh
            obtain⟨rfl,t1,t2⟩:=hh;obtain rfl:=zj hd1;subst e1;have q1:((1:Nat):Int)=1:=rfl;rw[q1] at c0;have t3:(0:Int)<=(et:Int):=by omega
            have t4:(et:Int)<2001:=by omega
            have t5:decide ((et:Int)<1)=false:=by simp;omega
            have t6:decide ((2000:Int)<(et:Int))=false:=by simp;omega
            have t7:((et:Int)<1)=False:=by simp;omega
            have t8:((2000:Int)<(et:Int))=False:=by simp;omega
            have t9:decide (et<1)=false:=by simp;omega
            have ZK:decide (2000<et)=false:=by simp;omega
            have ZL:(et<1)=False:=by simp;omega
            have ZM:(2000<et)=False:=by simp;omega
            have hx:=(cell_of_heap hz.MM et (v:=Em.u64 (bl.getD et 0)) (by rw[List.getElem?_map,mM,ym (by omega)];rfl))
            obtain⟨z0,z1⟩:=hx;have e9:(((last+1:Nat):Int)==(last:Int)+1)=true:=by simp
            have e8:(((last+1:Nat):Int) !=(last:Int)+1)=false:=by simp
            have e7:(((last+1:Nat):Int))=(last:Int)+1:=by simp
            rw[e7] at c2;have HX:=U (zA hk1 (zA hl1 (zA aU (zA hbl (zA hbb (zA hz (zA hsame hd2)))))));have JI:Hid (k<tl.length∧tn=tl.length):=⟨hkt,MN.out⟩
            clear hk1 hl1 aU hbl hbb hz hsame hd1 hd2 hkt hgh;go_wp2_with fail
            go_roundw
            case rel=>
             obtain⟨hk1,hl1,aU,hbl,hbb,hz,hsame,hd2⟩:=HX.out;refine⟨k+1,last+1,et::WR,bl.set et (last+1),rfl,rfl,JI.out.1,by omega,hd2,by rw[nD];exact hbl,?_,hz.Pw (But.setCell wr (J g et) _) ?_,?_⟩
             . intro T hT
               by_cases eT:T=et
               . subst eT
                 exact⟨last+1,by rw[List.getElem?_set,aW rfl,aW (by omega)],by omega,by omega⟩
               . obtain⟨b,b1,b2,b3⟩:=hbb T ((List.mem_cons.1 hT).resolve_left eT)
                 exact⟨b,by rw[List.getElem?_set,bu (fun h=>eT h.symm)];exact b1,b2,by omega⟩
             . rw[heap_setCell_same hz.MM,List.setIfInBounds_toArray,List.map_set];rfl
             . intro h hh
               exact ((But.setCell wr (J g et) _).block h hh).trans (hsame h hh)
            case measure=>have:=JI.out;simp[intOf];omega
          . cases hd1
        . rw[bu e1] at hd1
          have f1:((ek:Int)==1)=false:=by simp;omega
          have f2:((ek:Int) !=1)=true:=by simp;omega
          have f3:((ek:Int)=1)=False:=by simp;omega
          have f4:(ek=1)=False:=by simp;omega
          by_cases e3:ek=3
          . rw[aW e3] at hd1
            split at hd1
            . rename_i hh
              obtain⟨rfl,t1,t2,t0⟩:=hh;obtain rfl:=zj hd1;subst e3;have q1:((3:Nat):Int)=3:=rfl;rw[q1] at c0;obtain⟨b,b1,b2,b3⟩:=hbb et t0;have t3:(0:Int)<=(et:Int):=by omega
              have t4:(et:Int)<2001:=by omega
              have t5:decide ((et:Int)<1)=false:=by simp;omega
              have t6:decide ((2000:Int)<(et:Int))=false:=by simp;omega
              have t7:((et:Int)<1)=False:=by simp;omega
              have t8:((2000:Int)<(et:Int))=False:=by simp;omega
              have t9:decide (et<1)=false:=by simp;omega
              have ZK:decide (2000<et)=false:=by simp;omega
              have ZL:(et<1)=False:=by simp;omega
              have ZM:(2000<et)=False:=by simp;omega
              obtain⟨z0,z1⟩:=cell_of_heap hz.MM et (v:=Em.u64 b) (by rw[List.getElem?_map,b1];rfl);simp only[Em.u64] at z0;have g1:((b:Int)==0)=false:=by simp;omega
              have g2:((b:Int)=0)=False:=by simp;omega
              have g3:(b=0)=False:=by simp;omega
              have g4:decide ((last:Int)+1<=(b:Int))=false:=by simp;omega
              have g5:((last:Int)+1<=(b:Int))=False:=by simp;omega
              have g6:decide (last+1<=b)=false:=by simp;omega
              have e7:(((last+1:Nat):Int))=(last:Int)+1:=by simp
              rw[e7] at c2;have HX:=U (zA hk1 (zA hl1 (zA aU (zA hbl (zA hbb (zA hz (zA hsame hd2)))))));have JI:Hid (k<tl.length∧tn=tl.length):=⟨hkt,MN.out⟩
              clear hk1 hl1 aU hbl hbb hz hsame hd1 hd2 hkt hgh b1 b2 b3 t0 f1 f2 f3 f4 e1;go_wp2_with fail
              go_roundw
              case rel=>
               obtain⟨hk1,hl1,aU,hbl,hbb,hz,hsame,hd2⟩:=HX.out;refine⟨k+1,last+1,WR,bl,rfl,rfl,JI.out.1,by omega,hd2,hbl,fun T hT=>?_,hz,hsame⟩;obtain⟨b,b1,b2,b3⟩:=hbb T hT;exact⟨b,b1,b2,by omega⟩
              case measure=>have:=JI.out;simp[intOf];omega
            . cases hd1
          . rw[bu e3] at hd1
            obtain rfl:=zj hd1;have f5:((ek:Int)==3)=false:=by simp;omega
            have f6:((ek:Int) !=3)=true:=by simp;omega
            have f7:((ek:Int)=3)=False:=by simp;omega
            have f8:(ek=3)=False:=by simp;omega
            have HX:=U (zA hk1 (zA hl1 (zA aU (zA hbl (zA hbb (zA hz (zA hsame hd2)))))));have JI:Hid (k<tl.length∧tn=tl.length):=⟨hkt,MN.out⟩
            clear hk1 hl1 aU hbl hbb hz hsame hd1 hd2 hkt hgh e1 e3;go_wp2_with fail
            go_roundw
            case rel=>
             obtain⟨hk1,hl1,aU,hbl,hbb,hz,hsame,hd2⟩:=HX.out;exact⟨k+1,last,WR,bl,rfl,rfl,JI.out.1,by omega,hd2,hbl,hbb,hz,hsame⟩
            case measure=>have:=JI.out;simp[intOf];omega
      . have k1:decide ((k:Int)<(tn:Int))=false:=by simp;rw[MN.out];omega
        have k2:((k:Int)<(tn:Int))=False:=by simp;rw[MN.out];omega
        have k3:decide (k<tn)=false:=by simp;rw[MN.out];omega
        have k4:(k<tn)=False:=by simp;rw[MN.out];omega
        have hlast:last=W2.D.now:=by
         rw[ZH.out];rw[List.take_of_length_le (by omega),XO.out] at aU;exact (congrArg Prod.fst (zj aU)).symm
        have uu:=wR hz HW.out;rw[<-hlast] at uu;have NW:=U uu;have x0:=C.out _ _ _ _ HB2.out hz;have e5:((last:Int)==(last:Int))=true:=by simp
        clear uu hk1 hl1 aU hbl hbb hz hsame hkt hlast hlen
        go_wp2_with (first
          |(go_at_call 19;refine NW.out.mono ?_;rintro e w3 ⟨rfl,q⟩;have T3:=U q.toBelow;clear q NW)
          |(go_at_call 20;refine (HA.out _).mono ?_;rintro e w4 ⟨rfl,Z⟩;have T4:=U (T3.out.trans (Z.mono T3.out.size));clear Z))
        go_ret;exact⟨rfl,T4.out⟩
end Go.Proofs.YthicolbbmjfkfaaGreat.Em
