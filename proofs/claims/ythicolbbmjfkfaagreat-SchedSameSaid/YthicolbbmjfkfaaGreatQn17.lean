import Derived.Test.YthicolbbmjfkfaaGreatQn16
import Derived.Test.YthicolbbmjfkfaaGreatQn15
set_option linter.unusedVariables false
set_option linter.unusedSimpArgs false
set_option maxRecDepth 100000
set_option maxHeartbeats 1600000
namespace Go.Proofs.YthicolbbmjfkfaaGreat.Em
open Go.ChangeShapes Go.WideShapes Go.ChangeAt Go.RowKit En
theorem Gh {A:au} {D:St} {w:World} (hL:Live A D w) (s:Nat) (hs:s<8):
 zk 10 #[R A.H 0,I s] w fun e E=>e=.returned (.agg (jM (D.status s)))∧Below w.heap.size w E:=by
 unfold St.status
 cases ht:D.aj.getD s none with
 |none=>exact D5 hL.rep s hs ht
 |some t=>
  by_cases he:0<t.aA
  . cases hc:D.calls.getD s none with
    |none=>
     have h:=JK hL s hs t ht he hc;simp only[aV he];exact h
    |some c=>
     have h:=JL hL s hs t ht he c hc;simp only[aV he];exact h
  . cases hc:D.calls.getD s none with
    |none=>
     have h:=JH hL s hs t ht (by omega) hc;simp only[aR he];exact h
    |some c=>
     have h:=JJ hL s hs t ht (by omega) c hc;simp only[aR he];exact h
def Said (A:au) (w:World) (bB:St) (v:Value):Ending->World->Prop:=fun e E=>e=.returned v∧∃ A',Live A' bB E∧Grow A.L w A'.L E∧A'.H=A.H
variable {A:au} {D:St} {w:World}
def D6 (A:au) (w:World) (bB:St) (er:Nat):Ending->World->Prop:=fun e E=>∃ A',e=.returned (.tuple #[I 0,I er])∧Live A' bB E∧Grow A.L w A'.L E∧A'.H=A.H
theorem Live.tick {A:au} {D:St} {w E:World} (hL:Live A D w) (r:aC A D.tick E) (g:Grow A.L w A.L E):Live A D.tick E:=
 ⟨r,hL.mp,hL.mt,fun s h c hc=>let ⟨e1,k,e2,e3⟩:=hL.call s h c hc;⟨e1,k,e2,(show ny (kp A D s) A.L E (A.bA s) k from e3.grow g)⟩,hL.idle,hL.sx.keep rfl ⟨rfl,rfl⟩ g⟩
theorem Gi (hL:Live A D w) (s:Nat) (hs:s<8) (az:Nat) (hl1:1<=az) (hl2:az<=3) (hn:D.aj.getD s none=none) (hmd:D.aB<2000) (hx:D.word 0<18446744073709551616) (hlim:D.limit<=ai (D.word 0)) (aL:D.count<3000000000000000000):
 zk 9 #[R A.H 0,I s,I az] w (D6 A w D.tick 16):=by
 have hR:=hL.rep;have b1:(s:Int)<8:=by omega
 have b0:(0:Int)<=(s:Int):=by omega
 have gH:=zH (fI s hs);have xC:=zH (wI az hl1 hl2);have e2:=hR.z2;have v5:=hR.df (5+s) (dI A D hs);rw[show A.tp D s=.pointer none by unfold au.tp;rw[hn]] at v5;have v21:w.cell? (J A.H 21)=zt (D.aB:Int):=hR.df 21 rfl;have d1:decide ((2000:Int)<=(D.aB:Int))=false:=by simp;omega
 have d2:((2000:Int)<=(D.aB:Int))=False:=by simp;omega
 have d3:(2000<=D.aB)=False:=by simp;omega
 have l1:decide ((D.limit:Int)<=(ai (D.word 0):Int))=true:=by simp;omega
 have l2:((D.limit:Int)<=(ai (D.word 0):Int))=True:=by simp;omega
 have l3:(D.limit<=ai (D.word 0))=True:=by simp;omega
 have Us:=zH (iK hR 0 0 rfl (by rw[hR.nw];omega) (by omega));have Ut:=zH (fun E=>kg (D.word 0) hx E);have H1:Hid (∀ Y,aC A D.tick Y->Grow A.L w A.L Y->Y.cell? (J A.H 1)=zv (D.limit:Int)):=fun Y r g=>r.df 1 rfl
 have uC:=zH hL;clear hL hs hl1 hl2 hn hmd hx hlim aL hR;go_enter Tryz.func9,Tryz.ntmps9;go_wp2_with (first|(go_at_call 40;refine (gH.out _).mono ?_;rintro e E ⟨rfl,rfl⟩)|(go_at_call 41;refine (xC.out _).mono ?_;rintro e E ⟨rfl,rfl⟩)|(go_at_call 42;refine Us.out.mono ?_;rintro e Y ⟨rfl,q1,q2⟩;have v1:=H1.out Y q1 q2;have uK:=zH (zA q1 q2);clear q1 q2)|(go_at_call 43;refine (Ut.out _).mono ?_;rintro e E ⟨rfl,rfl⟩))
 go_ret2
 exact⟨A,rfl,uC.out.tick uK.out.1 uK.out.2,uK.out.2,rfl⟩
theorem D7 (hL:Live A D w) (s:Nat) (hs:s<8) (az:Nat) (hl1:1<=az) (hl2:az<=3) (t:bL) (ht:D.aj.getD s none=some t):
 zk 9 #[R A.H 0,I s,I az] w (D6 A w D 9):=by
 have hR:=hL.rep;have b1:(s:Int)<8:=by omega
 have b0:(0:Int)<=(s:Int):=by omega
 have gH:=zH (fI s hs);have xC:=zH (wI az hl1 hl2);have v5:=hR.df (5+s) (dI A D hs);rw[show A.tp D s=R (A.bt s) 0 by unfold au.tp;rw[ht]] at v5;have uC:=zH hL;clear hL hs hl1 hl2 ht hR;go_enter Tryz.func9,Tryz.ntmps9;go_wp2_with (first|(go_at_call 40;refine (gH.out _).mono ?_;rintro e E ⟨rfl,rfl⟩)|(go_at_call 41;refine (xC.out _).mono ?_;rintro e E ⟨rfl,rfl⟩))
 go_ret2
 exact⟨A,rfl,uC.out,Grow.refl _ _,rfl⟩
def xK (D:St) (s:Nat):Option (St×Bool):=
 if (D.status s).live=false then some (D,false)
 else if (D.status s).busy=false then (match jh D s ⟨6,0,0,0⟩ with|some aH=>some (aH,false)|none=>none)
 else match jg D s with|some (bB,_,_)=>some (bB,true)|none=>none
theorem Br (hL:Live A D w) (s:Nat) (hs:s<8) (aD:St) (b:Bool) (aX:xK D s=some (aD,b)):
 zk 93 #[R A.H 0,I s] w (Said A w aD (.bool b)):=by
 have Ql:=zH (Gh hL s hs);have HL2:Hid (∀ Y,Below w.heap.size w Y->Live A D (Y.alloc (.cells (jM (D.status s)) 42))∧Grow A.L w A.L (Y.alloc (.cells (jM (D.status s)) 42))):=fun Y hb=>⟨(hL.below hb).alloc _,(Grow.below hb).trans (Grow.alloc _ _ _)⟩
 have xL:Hid (∀ bB kd r' Y,jg D s=some (bB,kd,r')->Below w.heap.size w Y->zk 34 #[R A.H 0,I s] (Y.alloc (.cells (jM (D.status s)) 42)) (Stepped A (Y.alloc (.cells (jM (D.status s)) 42)) bB (kd:Int) r')):=fun bB kd r' Y h hb=>xI ((hL.below hb).alloc (.cells (jM (D.status s)) 42)) hs h
 have Gj:Hid (∀ aH Y,jh D s ⟨6,0,0,0⟩=some aH->Below w.heap.size w Y->zk 33 #[R A.H 0,I s,.agg #[I 6,I 0,I 0,I 0]] (Y.alloc (.cells (jM (D.status s)) 42)) (BF A (Y.alloc (.cells (jM (D.status s)) 42)) aH 0)):=fun aH Y h hb=>DV hs h A _ ((hL.below hb).alloc (.cells (jM (D.status s)) 42))
 unfold xK at aX;clear hL hs;unfold jM at Ql HL2 xL Gj;generalize D.status s=x at*
 cases hlv:x.live with
 |false=>
  rw[hlv] at Ql HL2;rw[aV hlv] at aX;simp only[Option.some.injEq,iQ] at aX;obtain⟨rfl,rfl⟩:=aX;clear hlv xL Gj;go_enter Tryz.func93,Tryz.ntmps93;go_wp2_with (go_at_call 10;refine Ql.out.mono ?_;rintro e Y ⟨rfl,hb⟩;have HB1:=zH hb;clear hb);go_ret;obtain⟨q1,q2⟩:=HL2.out Y HB1.out;exact⟨rfl,A,q1,q2,rfl⟩
 |true=>
  rw[aR (by simp[hlv])] at aX;rw[hlv] at Ql HL2 xL Gj;clear hlv
  cases hbu:x.busy with
  |false=>
   rw[hbu] at Ql HL2 Gj;rw[aV hbu] at aX
   split at aX
   . rename_i aH hi
     simp only[Option.some.injEq,iQ] at aX;obtain⟨rfl,rfl⟩:=aX;have HI:=zH (fun Y hb=>Gj.out aH Y hi hb);clear hbu xL Gj hi;go_enter Tryz.func93,Tryz.ntmps93;go_wp2_with (first|(go_at_call 10;refine Ql.out.mono ?_;rintro e Y ⟨rfl,hb⟩;have HB1:=zH hb;clear hb)|(go_at_call 33;refine (HI.out Y HB1.out).mono ?_;rintro e w2 ⟨A2,rfl,q1,q2,q3⟩;have H2:=zH (zA q1 (zA q2 q3));clear q1 q2 q3));go_ret;obtain⟨q1,q2,q3⟩:=H2.out;exact⟨rfl,A2,q1,(HL2.out Y HB1.out).2.trans q2,q3⟩
   . cases aX
  |true=>
   rw[hbu] at Ql HL2 xL;rw[aR (by simp[hbu])] at aX
   split at aX
   . rename_i bB kd r' hstep
     simp only[Option.some.injEq,iQ] at aX;obtain⟨rfl,rfl⟩:=aX;have HST:=zH (fun Y hb=>xL.out bB kd r' Y hstep hb);clear hbu xL Gj hstep;go_enter Tryz.func93,Tryz.ntmps93;go_wp2_with (first|(go_at_call 10;refine Ql.out.mono ?_;rintro e Y ⟨rfl,hb⟩;have HB1:=zH hb;clear hb)|(go_at_call 34;refine (HST.out Y HB1.out).mono ?_;rintro e w2 ⟨A2,vp,rfl,q1,q2,q3,q4⟩;have H2:=zH (zA q2 (zA q3 q4));clear q1 q2 q3 q4));go_ret;obtain⟨q1,q2,q3⟩:=H2.out;exact⟨rfl,A2,q1,(HL2.out Y HB1.out).2.trans q2,q3⟩
   . cases aX
theorem mQ {P:Nat->Prop} (h:∃ n,P n):∃ n,P n∧∀ m,m<n->¬ P m:=by
 obtain⟨n,hn⟩:=h
 induction n using Nat.strongRecOn with
 |_ n ih=>
  by_cases hm:∃ m,m<n∧P m
  . obtain⟨m,h1,h2⟩:=hm
    exact ih m h1 h2
  . exact⟨n,hn,fun m h1 h2=>hm ⟨m,h1,h2⟩⟩
open Classical in
noncomputable def uS (P:Nat->Prop):Nat:=if h:∃ n,P n then Classical.choose (mQ h) else 0
theorem D8 {P:Nat->Prop} (h:∃ n,P n):P (uS P):=by
 unfold uS;rw[dif_pos h];exact (Classical.choose_spec (mQ h)).1
theorem JM {P:Nat->Prop} {n:Nat} (h:P n):uS P<=n:=by
 have hh:∃ n,P n:=⟨n,h⟩
 unfold uS;rw[dif_pos hh]
 rcases Nat.lt_or_ge n (Classical.choose (mQ hh)) with h1|h1
 . exact absurd h ((Classical.choose_spec (mQ hh)).2 n h1)
 . exact h1
def Qm (z:Int):Nat:=((z.tmod 8+8).tmod 8).toNat
theorem Rx (z:Int):Qm z<8:=by unfold Qm;have h1:=Int.tmod_lt_of_pos (z.tmod 8+8) (show (0:Int)<8 by decide);omega
theorem LM (z:Int):((Qm z:Nat):Int)=(z.tmod 8+8).tmod 8:=by
 unfold Qm;have h0:=Int.lt_tmod_of_pos z (show (0:Int)<8 by decide);have h1:=Int.tmod_nonneg 8 (show (0:Int)<=z.tmod 8+8 by omega);omega
def roundOf (os:List Int):List Nat:=os.map Qm++List.range 8
def ma:List Nat->St->Nat->Option (St×Nat)
 |[],D,n=>some (D,n)
 |s::l,D,n=>match xK D s with
  |some (bB,b)=>ma l bB (if b=true then n+1 else n)
  |none=>none
def j6 (l:List Nat) (most:Nat):Nat->St->Nat->Option (St×Nat×Bool)
 |0,_,_=>none
 |f+1,D,n=>if D.live.length=0 then some (D,n,true) else match ma l D n with
  |some (bB,n')=>if most<n' then some (bB,0,false) else j6 l most f bB n'
  |none=>none
theorem BI {L:dE} {w:World} {base:Nat} {av:Option Addr} {m cap:Nat} {xs:List Value} (h:w.ownsRow base 3 1 (.slice av m cap) m xs) (hL:∀ b,base<=b->L b=none):dS L w 1 (.slice av m cap) xs:=by
 obtain⟨a,c,e,h1,h2,h3⟩:=Ow.bN h;obtain⟨rfl,rfl⟩:av=a∧cap=c:=by simpa using e
 refine⟨av,m,cap,rfl,h.1,h1,by unfold maxLen;omega,?_⟩
 rcases h.2 with ⟨h0,hn⟩|⟨g,cap',cur,hv,hb,hg,hnc,hcm,hcs,htake⟩
 . exact .inl (by first|exact h0|omega)
 . obtain⟨rfl,rfl⟩:av=za g 0∧cap=cap':=by simpa using hv
   refine .inr ⟨g,0,rfl,hL g (h.lt g rfl).1,(h.lt g rfl).2,fun j hj=>?_⟩;rw[Nat.zero_add];exact h.cellAt j hj
def mF (k:Nat):Nat:=(wJ (k:Int) 256).toNat*8
theorem Iz (k:Nat) (Z:k<=8):IntKind.i64.wrap (wJ (k:Int) 256*8)=((mF k:Nat):Int):=by
 match k,Z with
 |0,_|1,_|2,_|3,_|4,_|5,_|6,_|7,_|8,_=>decide +kernel
 |k+9,h=>omega
theorem Pg (k:Nat) (Z:k<=8):mF k<=200000000:=by
 match k,Z with
 |0,_|1,_|2,_|3,_|4,_|5,_|6,_|7,_|8,_=>decide +kernel
 |k+9,h=>omega
def uT (A:au) (w:World) (l:List Nat) (most:Nat) (vr:Value) (aD:St) (n2:Nat) (ok:Bool) (f:Nat) (n:Nat) (wr:World):Prop:=
 ∃ Qn A',j6 l most f Qn n=some (aD,n2,ok)∧n<=most∧Live A' Qn wr∧Grow A.L w A'.L wr∧A'.H=A.H∧dS A'.L wr 1 vr (l.map i64)
theorem Ph (hL:Live A D w) (os:List Int) (ao:Option Addr) (co:Nat) (hfo:dS A.L w 1 (.slice ao os.length co) (os.map fun z=>I z)) (hol:os.length<=1000) (ae:Nat) (aD:St) (n2:Nat) (ok:Bool) (aX:j6 (roundOf os) (mF D.live.length) ae D 0=some (aD,n2,ok)):
 zk 67 #[R A.H 0,.slice ao os.length co] w fun e E=>e=.returned (.tuple #[I n2,.bool ok])∧∃ A',Live A' aD E∧Grow A.L w A'.L E∧A'.H=A.H:=by
 have hlen:D.live.length<=8:=uR D 8;have Zr:=zH (vN hL.rep);have Zt:=zH (zA (Iz D.live.length hlen) (Pg D.live.length hlen));have n8:=Iz D.live.length hlen;have HH:=zH (zA hL (zA hfo (zA hol aX)));have UD:∀ k (Z:k<os.length) (wr:World),Below w.heap.size w wr->∃ g off,ao=za g off∧wr.cell? (J g (off+k))=some (I os[k]):=by
  intro k Z wr hb;obtain⟨a,n,cap,e,h1,h2,h3,h4⟩:=hfo;simp only[Value.slice.injEq] at e;obtain⟨rfl,rfl,rfl⟩:=e
  rcases h4 with h4|⟨g,off,e1,e2,e3,e4⟩
  . omega
  . refine⟨g,off,e1,?_⟩
    rw[World.cell?_of_block (w:=w) (a:=(J g (off+k))) (hb.block g e3),e4 k (by omega)];simp[Z]
 have HO:=zH UD;clear UD hL hfo aX hlen;generalize Qa:mF D.live.length=most at*;generalize D.live.length=k8 at*;go_enter Tryz.func67,Tryz.ntmps67;go_wp2_with (first|(go_at_call 13;refine Zr.out.mono ?_;rintro e Y ⟨av,cap,rfl,hr,hb⟩;have HB1:=zH hb;clear hr hb)|(go_at_call 51;refine (JD _ _ _).mono ?_;rintro e E ⟨rfl,rfl⟩))
 go_loopw [7,21] (fun l i wr=>∃ k:Nat,k<=os.length∧i=I k∧Below w.heap.size w wr∧∃ av cap,l=.slice av k cap∧wr.ownsRow w.heap.size 3 1 l k (((os.take k).map Qm).map i64)) (fun _ i _=>os.length - (intOf i).toNat)
 case atStart=>exact⟨0,zz _,rfl,HB1.out,none,0,rfl,rfl,.inl ⟨rfl,rfl⟩⟩
 case round=>
  obtain⟨k,Z,rfl,hb,Zv,xc,rfl,aU⟩:=hrel
  by_cases hlt:k<os.length
  . obtain⟨g,off,rfl,hc⟩:=HO.out k hlt wr hb
    have hto:os.take (k+1)=os.take k++[os[k]]:=by rw[List.take_succ_eq_append_getElem hlt]
    have hz:=LM os[k];have h0:=Int.lt_tmod_of_pos os[k] (show (0:Int)<8 by decide);have h1:=Int.tmod_lt_of_pos os[k] (show (0:Int)<8 by decide);have hz2:((Qm os[k]:Nat):Int)=os[k].tmod 8 % 8:=by rw[hz,Int.tmod_eq_emod_of_nonneg (by omega)];omega
    have HT:=zH (zA hto (zA hlt (zA hz hz2)));have nb:(k:Int)<(os.length:Int):=by omega
    have Q5:(0:Int)<=(k:Int):=by omega
    have n1:IntKind.i64.wrap ((k:Int)+1)=(k:Int)+1:=by rw[jG];omega
    have hk4:k<4000000:=by omega
    clear hto hz hz2 Z;generalize os[k]=z at*;clear hlt;have m1:IntKind.i64.wrap (z.tmod 8+8)=z.tmod 8+8:=by rw[jG];omega
    go_wp2_with (refine oz _ rfl _ _ rfl w (by assumption) _ _ _ _ rfl (by assumption) (by omega) _ rfl ?_;intro mr gp wl ql pl)
    go_roundw
    case rel=>
     obtain⟨hto,hlt,hz,hz2⟩:=HT.out;refine⟨k+1,hlt,rfl,pl,mr,gp,rfl,?_⟩;rw[hto]
     first|rw[<-hz] at ql|rw[<-hz2] at ql
     simpa using ql
    case measure=>have:=HT.out.2.1;simp[intOf];omega
  . obtain rfl:k=os.length:=by omega
    rw[List.take_length] at aU;clear hlt Z;go_wp2
    go_loopw [7,33] (fun l i wr=>∃ k:Nat,k<=8∧i=I k∧Below w.heap.size w wr∧∃ av cap,l=.slice av (os.length+k) cap∧wr.ownsRow w.heap.size 3 1 l (os.length+k) ((os.map Qm++List.range k).map i64)) (fun _ i _=>8 - (intOf i).toNat)
    case atStart=>exact⟨0,by omega,rfl,hb,Zv,xc,rfl,by simpa using aU⟩
    case round=>
     clear aU hb;obtain⟨k,Z,rfl,hb,UE,cap2,rfl,aU⟩:=hrel
     by_cases hlt:k<8
     . have n1:IntKind.i64.wrap ((k:Int)+1)=(k:Int)+1:=by rw[jG];omega
       have nb:(k:Int)<8:=by omega
       have hk4:os.length+k<4000000:=by omega
       have HT:=zH hlt;clear hlt Z;generalize hmm:os.length+k=m at*;have HM:=zH hmm;clear hmm;go_wp2_with (refine oz _ rfl _ _ rfl w (by assumption) _ _ _ _ rfl (by assumption) (by omega) _ rfl ?_;intro mr gp wl ql pl)
       go_roundw
       case rel=>
        have em:os.length+(k+1)=m+1:=by have:=HM.out;omega
        refine⟨k+1,HT.out,rfl,pl,mr,gp,by rw[em],?_⟩;rw[em,List.range_succ,<-List.append_assoc,List.map_append];exact ql
       case measure=>have:=HT.out;simp[intOf];omega
     . obtain rfl:k=8:=by omega
       have h8:((8:Nat):Int)=8:=rfl;rw[h8];clear h8;have hR0:wr.ownsRow w.heap.size 3 1 (.slice UE (os.length+8) cap2) (os.length+8) ((roundOf os).map i64):=aU;obtain⟨g2,hg2⟩:∃ g2,UE=za g2 0:=by
        rcases hR0.2 with ⟨h0,hn⟩|⟨g,cap',cur,hv,_⟩
        . omega
        . simp only[Value.slice.injEq] at hv
          exact⟨g,hv.1⟩
       have hfr:=BI hR0 HH.out.1.rep.mem.fresh;obtain⟨l,hl⟩:∃ l,l=roundOf os:=⟨_,rfl⟩
       have hll:l.length=os.length+8:=by rw[hl];unfold roundOf;simp
       have sH:∀ s∈l,s<8:=by
        intro s hs;rw[hl] at hs;unfold roundOf at hs
        rcases List.mem_append.1 hs with hs|hs
        . obtain⟨z,_,rfl⟩:=List.mem_map.1 hs
          exact Rx z
        . exact List.mem_range.1 hs
       obtain⟨Qo,_,hol,aX⟩:=HH.out;rw[<-hl] at hfr aX;have hE:uT A w l most (.slice UE l.length cap2) aD n2 ok ae 0 wr:=⟨D,A,aX,zz _,Qo.below hb,Grow.below hb,rfl,by rw[hll];exact hfr.grow (Grow.refl _ _)⟩
       rw[<-hll];have HS:=zH (zA hE (zA sH (show l.length<=2000 by omega)));have XX:=zH hll;clear hlt Z aU hb hR0 hfr hE sH hll Qo aX hol hl;subst hg2;go_wp2
       go_loopw [11] (fun i wr=>∃ f n:Nat,i=I n∧uT A w l most (.slice (some (J g2 0)) l.length cap2) aD n2 ok f n wr) (fun i wr=>uS fun f=>uT A w l most (.slice (some (J g2 0)) l.length cap2) aD n2 ok f (intOf i).toNat wr)
       case atStart=>exact⟨ae,0,rfl,HS.out.1⟩
       case round=>
        obtain⟨f,n,rfl,hrel⟩:=hrel;have hm:=D8 (P:=fun f=>uT A w l most (.slice (some (J g2 0)) l.length cap2) aD n2 ok f n wr) ⟨f,hrel⟩;clear hrel f;obtain⟨f0,hf0⟩:∃ f0,uS (fun f=>uT A w l most (.slice (some (J g2 0)) l.length cap2) aD n2 ok f n wr)=f0:=⟨_,rfl⟩
        rw[hf0] at hm;have Q7:=zH hf0;clear hf0;obtain⟨Qn,A',aX,hnm,hL,gr,eb,hfr⟩:=hm
        cases f0 with
        |zero=>cases aX
        |succ f0=>
        unfold j6 at aX;have hlv:=vN hL.rep;rw[eb] at hlv;have Ry:=zH hlv;have Yt:Hid (∀ Y,Below wr.heap.size wr Y->Live A' Qn Y∧Grow A.L w A'.L Y∧dS A'.L Y 1 (.slice (some (J g2 0)) l.length cap2) (l.map i64)):=fun Y hb=>⟨hL.below hb,gr.trans (Grow.below hb),hfr.grow (Grow.below hb)⟩
        have WU:=zH (zA eb hnm);clear hlv hL gr hfr eb hnm
        by_cases h0:Qn.live.length=0
        . rw[aV h0] at aX
          simp only[Option.some.injEq,iQ] at aX;obtain⟨rfl,rfl,rfl⟩:=aX;rw[h0] at Ry;clear h0;go_wp2_with (go_at_call 13;refine Ry.out.mono ?_;rintro e w3 ⟨Zw,WV,rfl,hr,hb⟩;have HB3:=zH hb;clear hr hb)
          go_ret2
          obtain⟨q1,q2,_⟩:=Yt.out w3 HB3.out;exact⟨rfl,A',q1,q2,WU.out.1⟩
        . rw[aR h0] at aX
          have hp:0<Qn.live.length:=by omega
          generalize Qn.live.length=nl at*;obtain⟨Vy,Vz,VA,VB⟩:=Tj (x:=0) (c:=nl) (xi:=(0:Int)) (ci:=(nl:Int)) (by omega);clear h0 hp
          split at aX
          . rename_i bB n' LP
            have Yu:=zH (zA aX LP);clear aX LP;go_wp2_with (go_at_call 13;refine Ry.out.mono ?_;rintro e w3 ⟨Zw,WV,rfl,hr,hb⟩;have HB3:=zH hb;clear hr hb)
            go_loopw [11,47] (fun i q wr2=>∃ k nk:Nat,i=I nk∧q=I k∧k<=l.length∧nk<=n+k∧∃ VC A2,ma (l.drop k) VC nk=some (bB,n')∧Live A2 VC wr2∧Grow A.L w A2.L wr2∧A2.H=A.H∧dS A2.L wr2 1 (.slice (some (J g2 0)) l.length cap2) (l.map i64)) (fun _ q _=>l.length - (intOf q).toNat)
            case atStart=>
             obtain⟨q1,q2,q3⟩:=Yt.out w3 HB3.out;exact⟨0,n,rfl,rfl,zz _,by omega,Qn,A',Yu.out.2,q1,q2,WU.out.1,q3⟩
            case round=>
             obtain⟨k,nk,rfl,rfl,Z,hnk,VC,A2,hrr,hL2,Rz,Qp,hfr2⟩:=hrel;have hnm:=WU.out.2;have Qa:=Zt.out.2;have UF:=HS.out.2.2
             by_cases hlt:k<l.length
             . have hd:l.drop k=l[k]::l.drop (k+1):=List.drop_eq_getElem_cons hlt
               rw[hd] at hrr;unfold ma at hrr;have UG:=HS.out.2.1 l[k] (List.getElem_mem hlt);have hcl:=hfr2.at (j:=k) (v:=I (l[k]:Int)) (by simp[hlt])
               split at hrr
               . rename_i Ir b3 hone
                 have ho:=Br hL2 l[k] UG Ir b3 hone;rw[Qp] at ho;have Zx:=zH ho;have HK:=zH (zA hrr (zA hlt (zA hnk (zA Rz (zA Qp hfr2)))));have nb:(k:Int)<(l.length:Int):=by omega
                 have Q5:(0:Int)<=(k:Int):=by omega
                 have n1:IntKind.i64.wrap ((k:Int)+1)=(k:Int)+1:=by rw[jG];omega
                 have n2':IntKind.i64.wrap ((nk:Int)+1)=(nk:Int)+1:=by rw[jG];omega
                 clear ho hone hrr hnk Rz Qp hfr2 hL2 hd UG Z hnm Qa UF;generalize l[k]=sk at*;clear hlt
                 cases b3
                 all_goals
                  go_wp2_with (go_at_call 93;refine Zx.out.mono ?_;rintro e w4 ⟨rfl,A4,q1,q2,q3⟩;have HQ:=zH (zA q1 (zA q2 q3));clear q1 q2 q3)
                  go_roundw
                  case rel=>
                   obtain⟨hrr,hlt,hnk,Rz,Qp,hfr2⟩:=HK.out;obtain⟨q1,q2,q3⟩:=HQ.out
                   first
                   |exact⟨k+1,nk,rfl,rfl,hlt,by omega,Ir,A4,by simpa using hrr,q1,Rz.trans q2,q3.trans Qp,hfr2.grow q2⟩
                   |exact⟨k+1,nk+1,rfl,rfl,hlt,by omega,Ir,A4,by simpa using hrr,q1,Rz.trans q2,q3.trans Qp,hfr2.grow q2⟩
                  case measure=>have:=HK.out.2.1;simp[intOf];omega
               . cases hrr
             . obtain rfl:k=l.length:=by omega
               rw[List.drop_length] at hrr;unfold ma at hrr;simp only[Option.some.injEq,iQ] at hrr;obtain⟨rfl,rfl⟩:=hrr;have aX:=Yu.out.1;have HQ:=zH (zA hL2 (zA Rz (zA Qp hfr2)));clear hL2 Rz Qp hfr2 hlt Z UF
               by_cases VD:most<nk
               . rw[aV VD] at aX
                 simp only[Option.some.injEq,iQ] at aX;obtain⟨rfl,rfl,rfl⟩:=aX;obtain⟨Vn,Vo,Vp,Vq⟩:=Tj (x:=most) (c:=nk) (xi:=(most:Int)) (ci:=(nk:Int)) (by omega);clear VD hnk hnm Qa;go_wp2
                 go_ret2
                 obtain⟨q1,q2,q3,_⟩:=HQ.out;exact⟨rfl,A2,q1,q2,q3⟩
               . rw[aR VD] at aX
                 have hnew:uT A w l most (.slice (some (J g2 0)) l.length cap2) aD n2 ok f0 nk _:=⟨VC,A2,aX,by omega,HQ.out.1,HQ.out.2.1,HQ.out.2.2.1,HQ.out.2.2.2⟩
                 have UH:=zH hnew;obtain⟨Vn,Vo,Vp,Vq⟩:=Vf (x:=most) (c:=nk) (xi:=(most:Int)) (ci:=(nk:Int)) (by omega);clear VD hnk hnm Qa hnew aX;go_wp2
                 go_roundw
                 case rel=>exact⟨f0,nk,rfl,UH.out⟩
                 case measure=>exact Nat.lt_of_le_of_lt (JM UH.out) (Nat.lt_of_lt_of_eq (Nat.lt_succ_self f0) Q7.out.symm)
          . cases aX
structure S9 (b:Nat) (w0:World) (D:St) (w:World):Prop where
 ex:∃ A:au,A.H=b∧Live A D w∧Grow (fun _=>none) w0 A.L w
theorem S9.toBelow {b:Nat} {w0 w:World} {D:St} (h:S9 b w0 D w):Below w0.heap.size w0 w:=let ⟨_,_,_,g⟩:=h.ex;g.toBelow
theorem uU {a b:Bool} (h:(a&&b)=true):a=true∧b=true:=by simpa using h
theorem RA (n l:Nat) (h1:1<=n) (h2:n<=256) (h3:1<=l) (h4:l<=1099511627776) (w:World):
 zk 37 #[.agg #[I n,zu l]] w fun e E=>∃ b,e=.returned (.tuple #[R b 0,I 0])∧S9 b w (new n l) E:=by
 refine (JG n l h1 h2 h3 h4 w).mono ?_;rintro e E ⟨A,rfl,hL,g⟩;exact⟨A.H,rfl,A,rfl,hL,g⟩
inductive Kept where
 |obj (k:Nat) (o:Obj)
 |row (size:Nat) (v:Value) (xs:List Value)
 |far (k:Nat) (o:Obj)
 |floor (n:Nat)
def Kept.holds (L:dE) (w:World):Kept->Prop
 |.obj k o=>Fix L w k o
 |.row size v xs=>dS L w size v xs
 |.far k o=>L k=some .tmp∧w.heap[k]? =some o
 |.floor n=>n<=w.heap.size
theorem Kept.grow {L L':dE} {w E:World} (g:Grow L w L' E):∀ {k:Kept},k.holds L w->k.holds L' E
 |.obj _ _,h=>Fix.grow h g
 |.row _ _ _,h=>dS.grow h g
 |.far _ _,h=>⟨(g.lab _ (fA h.2)).trans h.1,(g.keep _ (fA h.2) h.1).trans h.2⟩
 |.floor _,h=>gy h g.size
def kz (L:dE) (w:World):List Kept->Prop
 |[]=>True
 |k::ks=>k.holds L w∧kz L w ks
theorem kz.grow {L L':dE} {w E:World} (g:Grow L w L' E):∀ {ks:List Kept},kz L w ks->kz L' E ks
 |[],_=>trivial
 |_::_,⟨h,t⟩=>⟨Kept.grow g h,kz.grow g t⟩
structure rE (b:Nat) (w0:World) (ks:List Kept) (D:St) (w:World):Prop where
 ex:∃ A:au,A.H=b∧Live A D w∧Grow (fun _=>none) w0 A.L w∧kz A.L w ks
theorem S9.kt {b:Nat} {w0 w:World} {D:St} (h:S9 b w0 D w):rE b w0 [] D w:=let ⟨A,e,l,g⟩:=h.ex;⟨A,e,l,g,trivial⟩
theorem rE.at {b:Nat} {w0 w:World} {D:St} {ks:List Kept} (h:rE b w0 ks D w):S9 b w0 D w:=let ⟨A,e,l,g,_⟩:=h.ex;⟨A,e,l,g⟩
theorem rE.toBelow {b:Nat} {w0 w:World} {D:St} {ks:List Kept} (h:rE b w0 ks D w):Below w0.heap.size w0 w:=h.at.toBelow
theorem rE.tail {b:Nat} {w0 w:World} {D:St} {k:Kept} {ks:List Kept} (h:rE b w0 (k::ks) D w):rE b w0 ks D w:=let ⟨A,e,l,g,_,t⟩:=h.ex;⟨A,e,l,g,t⟩
theorem rE.below {b:Nat} {w0 w E:World} {D:St} {ks:List Kept} (h:rE b w0 ks D w) (hb:Below w.heap.size w E):rE b w0 ks D E:=
 let ⟨A,e,l,g,t⟩:=h.ex
 ⟨A,e,l.below hb,g.trans (Grow.below hb),kz.grow (Grow.below hb) t⟩
theorem rE.alloc {b:Nat} {w0 w:World} {D:St} {ks:List Kept} (h:rE b w0 ks D w) (o:Obj):rE b w0 (.obj w.heap.size o::ks) D (w.alloc o):=
 let ⟨A,e,l,g,t⟩:=h.ex
 ⟨A,e,l.alloc _,g.trans (Grow.alloc _ _ _),eP l.rep.mem.fresh _ rfl,kz.grow (Grow.alloc _ _ _) t⟩
theorem rE.obj {b:Nat} {w0 w:World} {D:St} {ks:List Kept} {k:Nat} {o:Obj} (h:rE b w0 ks D w) (hm:.obj k o∈ks):w.heap[k]? =some o:=by
 obtain⟨A,_,_,_,t⟩:=h.ex
 induction ks with
 |nil=>cases hm
 |cons x ks ih=>
  rcases List.mem_cons.1 hm with rfl|hm
  . exact t.1.2
  . exact ih h.tail hm t.2
theorem vO (e v x y:Int) (a1 a2:Option Addr) (n c1 c2:Nat) (ps:List (Nat×Nat)) (w:World) (h1:Ow.Row w 0 2 (.slice a1 n c1) (bJ ps)) (h2:Ow.Row w 0 2 (.slice a2 n c2) (bJ ps)):
 zk 12 #[.agg #[I e,I v,.slice a1 n c1,I x,I y],.agg #[I e,I v,.slice a2 n c2,I x,I y]] w fun e E=>e=.returned (.bool true)∧Below w.heap.size w E:=by
 have H1:=zH h1;have H2:=zH h2;clear h1 h2;go_enter Tryz.func12,Tryz.ntmps12;go_wp2_with (go_at_call 52;refine (FM _ _ ps _ _ _ (Row.alloc' (Row.alloc' H1.out _) _) (Row.alloc' (Row.alloc' H2.out _) _)).mono ?_;rintro e w9 ⟨rfl,q⟩;have HB:=zH q;clear q);go_ret;refine⟨rfl,?_⟩;have hb:=HB.out;have h2:Below w.heap.size w ((w.alloc (.cells #[I e,I v,.slice a1 n c1,I x,I y] 46)).alloc (.cells #[I e,I v,.slice a2 n c2,I x,I y] 46)):=(((Below.refl _ _).alloc (zr _) _)).alloc (by simp) _;exact h2.trans (hb.mono h2.size)
theorem Kept.soft {L L':dE} {w E:World} (g:kE L w L' E):∀ {k:Kept},(∀ b o,k=.far b o->L b=some .tmp->b<w.heap.size->L' b=some .tmp∧E.heap[b]? =w.heap[b]?)->k.holds L w->k.holds L' E
 |.obj _ _,_,h=>Fix.soft h g
 |.row _ _ _,_,h=>dS.soft h g
 |.far b o,f,h=>let ⟨e1,e2⟩:=f b o rfl h.1 (fA h.2);⟨e1,e2.trans h.2⟩
 |.floor _,_,h=>gy h g.size
theorem kz.soft {L L':dE} {w E:World} (g:kE L w L' E):∀ {ks:List Kept},(∀ b o,Kept.far b o∈ks->L b=some .tmp->b<w.heap.size->L' b=some .tmp∧E.heap[b]? =w.heap[b]?)->kz L w ks->kz L' E ks
 |[],_,_=>trivial
 |_::_,f,⟨h,t⟩=>⟨Kept.soft g (fun b o e=>f b o (e ▸ nK)) h,kz.soft g (fun b o e=>f b o (qg _ e)) t⟩
theorem fC {w:World} {g:Nat} {cs:Array Value} {T:TypeId} (h:w.heap[g]? =some (.cells cs T)) (i:Nat) {v:Value} (hv:cs[i]? =some v):w.cell? (J g i)=some v:=by
 rw[cell_of_row w g i _ _ _ h];exact hv
end Go.Proofs.YthicolbbmjfkfaaGreat.Em
