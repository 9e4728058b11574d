import Derived.Test.YthicolbbmjfkfaaGreatQn24
import Derived.Test.YthicolbbmjfkfaaGreatQn27
import Derived.Deep.CutRange
set_option linter.unusedVariables false
set_option linter.unusedSimpArgs false
set_option maxRecDepth 100000
set_option maxHeartbeats 1600000
namespace Go.Proofs.YthicolbbmjfkfaaGreat.Em
open Go.ChangeShapes Go.WideShapes Go.ChangeAt Go.RowKit En
theorem Hf {A:au} {D:St} {w:World} (hL:Live A D w) (s:Nat) (hs:s<8) (t:bL) (ht:D.aj.getD s none=some t) (o:En.Op) (ho:p9 o=true) (he:iB o=false) (hn:D.calls.getD s none=none) (hop:12<=t.ops):
 zk 33 #[R A.H 0,I s,.agg #[I o.kind,I o.F,I o.hi,I o.value]] w fun e E=>e=.returned (I 65)∧Below w.heap.size w E:=by
 obtain⟨r0,g0,f0⟩:=dA hL.rep #[I o.kind,I o.F,I o.hi,I o.value] 27;have gH:=zH (fI s hs);have hok:=zH (uL o ho);have hen:=zH (Bz o);rw[he] at hen;have b1:(s:Int)<8:=by omega
 have b0:(0:Int)<=(s:Int):=by omega
 have HW:Hid (∀ E,Below (w.alloc (.cells #[I o.kind,I o.F,I o.hi,I o.value] 27)).heap.size (w.alloc (.cells #[I o.kind,I o.F,I o.hi,I o.value] 27)) E->Below w.heap.size w E∧(zT E w.heap.size 0 o.kind∧zT E w.heap.size 1 o.F∧zT E w.heap.size 2 o.hi∧zT E w.heap.size 3 o.value)∧zS E A.H (5+s) (A.bt s) 0∧E.cell? (J A.H (13+s))=some (.pointer none)∧zT E (A.bt s) 5 t.ops):=by
  intro E hb;have r:=r0.below hb;have f:=f0.grow (Grow.below (L:=A.L) hb);have h:=r.df (5+s) (dI A D hs);have h2:=r.df (13+s) (dP A D hs);have e:A.tp D s=R (A.bt s) 0:=by unfold au.tp;rw[ht]
  rw[e] at h;rw[hL.idle s hs hn] at h2;exact⟨((Below.refl _ _).alloc (zr _) _).trans (hb.mono (by simp)),⟨f.cell 0 rfl,f.cell 1 rfl,f.cell 2 rfl,f.cell 3 rfl⟩,h,h2,r.fw ht 5 rfl⟩
 obtain⟨hb0,⟨o0,o1,o2,o3⟩,v1,v2,v3⟩:=HW.out _ (Below.refl _ _);have HB0:=zH hb0;have d1:decide ((12:Int)<=(t.ops:Int))=true:=by simp;omega
 have d2:((12:Int)<=(t.ops:Int))=True:=by simp;omega
 have d3:(12<=t.ops)=True:=by simp;omega
 clear hL r0 g0 f0 hs ho he hn hop ht hb0;go_enter Tryz.func33,Tryz.ntmps33;go_wp2_with (first|(go_at_call 40;refine (gH.out _).mono ?_;rintro e E ⟨rfl,rfl⟩)|(go_at_call 68;refine (hok.out _).mono ?_;rintro e Y ⟨rfl,hb⟩;obtain⟨_,⟨y0,y1,y2,y3⟩,x1,x2,x3⟩:=HW.out Y hb;have H1:=zH hb;clear hb)|(go_at_call 69;refine (hen.out _).mono ?_;rintro e w2 ⟨rfl,hb2⟩;have HB2:=zH (HW.out w2 (H1.out.trans (hb2.mono H1.out.size))).1;clear hb2));go_ret;exact⟨rfl,HB2.out⟩
variable {A:au} {D:St} {w:World}
def sI (s:Int):Bool:=decide (0<=s)&&decide (s<8)
def lI (l:Int):Bool:=decide (1<=l)&&decide (l<=3)
theorem Nc {s:Int} (h:sI s=true):∃ n:Nat,s=n∧n<8:=by
 unfold sI at h;simp at h;exact⟨s.toNat,by omega,by omega⟩
theorem Nf {n:Nat} (h:n<8):sI n=true:=by unfold sI;simp;omega
theorem U8 {l:Int} (h:lI l=true):∃ n:Nat,l=n∧1<=n∧n<=3:=by
 unfold lI at h;simp at h;exact⟨l.toNat,by omega,by omega,by omega⟩
theorem qK (s:Int) (w:World):zk 40 #[I s] w fun e E=>e=.returned (.bool (sI s))∧w=E:=by
 go_enter Tryz.func40,Tryz.ntmps40;go_wp2
 all_goals (
  go_ret
  refine⟨congrArg (fun b=>Ending.returned (Value.bool b)) ?_,rfl⟩
  rw[Bool.eq_iff_iff]
  unfold sI
  (try simp_all)<;>(try omega))
theorem Sm (s:Int) (w:World):zk 41 #[I s] w fun e E=>e=.returned (.bool (lI s))∧w=E:=by
 go_enter Tryz.func41,Tryz.ntmps41;go_wp2
 all_goals (
  go_ret
  refine⟨congrArg (fun b=>Ending.returned (Value.bool b)) ?_,rfl⟩
  rw[Bool.eq_iff_iff]
  unfold lI
  (try simp_all)<;>(try omega))
theorem Kc (H:Nat) (w:World) (s az:Int) (hb:sI s=false∨lI az=false):
 zk 9 #[R H 0,I s,I az] w fun e E=>e=.returned (.tuple #[I 0,I 1])∧w=E:=by
 have gH:=zH (qK s);have xC:=zH (Sm az)
 cases h1:sI s with
 |false=>
  rw[h1] at gH;clear hb xC h1;go_enter Tryz.func9,Tryz.ntmps9;go_wp2_with (first|(go_at_call 40;refine (gH.out _).mono ?_;rintro e E ⟨rfl,rfl⟩))
  go_ret2
  exact⟨rfl,rfl⟩
 |true=>
  have h2:lI az=false:=hb.resolve_left (by rw[h1];simp);rw[h1] at gH;rw[h2] at xC;clear hb h1 h2;go_enter Tryz.func9,Tryz.ntmps9;go_wp2_with (first|(go_at_call 40;refine (gH.out _).mono ?_;rintro e E ⟨rfl,rfl⟩)|(go_at_call 41;refine (xC.out _).mono ?_;rintro e E ⟨rfl,rfl⟩))
  go_ret2
  exact⟨rfl,rfl⟩
theorem Ke (H:Nat) (w:World) (s k F hi v:Int) (hb:sI s=false):
 zk 33 #[R H 0,I s,.agg #[I k,I F,I hi,I v]] w fun e E=>e=.returned (I 1)∧Below w.heap.size w E:=by
 have gH:=zH (qK s);rw[hb] at gH;have HB:=zH ((Below.refl _ w).alloc (zr _) (.cells #[I k,I F,I hi,I v] 27));clear hb;go_enter Tryz.func33,Tryz.ntmps33;go_wp2_with (first|(go_at_call 40;refine (gH.out _).mono ?_;rintro e E ⟨rfl,rfl⟩));go_ret;exact⟨rfl,HB.out⟩
theorem yP (hL:Live A D w) (s:Nat) (hs:s<8) (k F hi v:Int) (hb:D.aj.getD s none=none∨Nv k F hi v=false∨(D.calls.getD s none).isSome=true):
 zk 33 #[R A.H 0,I s,.agg #[I k,I F,I hi,I v]] w fun e E=>e=.returned (I 9)∧Below w.heap.size w E:=by
 have gH:=zH (qK (s:Int));rw[Nf hs] at gH;have hok:=zH (EX k F hi v);obtain⟨r0,g0,f0⟩:=dA hL.rep #[I k,I F,I hi,I v] 27;have b1:(s:Int)<8:=by omega
 have b0:(0:Int)<=(s:Int):=by omega
 have hcf:A.bF s=.pointer none∧D.calls.getD s none=none∨A.bF s=R (A.bc s) 0∧(D.calls.getD s none).isSome=true:=by
  cases e:D.calls.getD s none with
  |none=>exact .inl ⟨hL.idle s hs e,rfl⟩
  |some c=>exact .inr ⟨(hL.call s hs c e).1,rfl⟩
 obtain⟨vc,uB⟩:∃ vc,vc=A.bF s:=⟨_,rfl⟩
 rw[<-uB] at hcf;obtain⟨vt,Uz⟩:∃ vt,vt=A.tp D s:=⟨_,rfl⟩
 have htf:vt=.pointer none∧D.aj.getD s none=none∨vt=R (A.bt s) 0∧(D.aj.getD s none).isSome=true:=by
  rw[Uz];unfold au.tp
  cases e:D.aj.getD s none with
  |none=>exact .inl ⟨rfl,rfl⟩
  |some t=>exact .inr ⟨rfl,rfl⟩
 have HW:Hid (∀ E,Below (w.alloc (.cells #[I k,I F,I hi,I v] 27)).heap.size (w.alloc (.cells #[I k,I F,I hi,I v] 27)) E->Below w.heap.size w E∧(zT E w.heap.size 0 k∧zT E w.heap.size 1 F∧zT E w.heap.size 2 hi∧zT E w.heap.size 3 v)∧E.cell? (J A.H (5+s))=some vt∧E.cell? (J A.H (13+s))=some vc):=by
  intro E hb;have r:=r0.below hb;have f:=f0.grow (Grow.below (L:=A.L) hb);exact⟨((Below.refl _ _).alloc (zr _) _).trans (hb.mono (by simp)),⟨f.cell 0 rfl,f.cell 1 rfl,f.cell 2 rfl,f.cell 3 rfl⟩,by rw[Uz];exact r.df (5+s) (dI A D hs),by rw[uB];exact r.df (13+s) (dP A D hs)⟩
 obtain⟨hb0,⟨o0,o1,o2,o3⟩,v1,v2⟩:=HW.out _ (Below.refl _ _);have HB0:=zH hb0;clear hL r0 g0 f0 hs hb0 uB Uz
 rcases htf with ⟨rfl,ht⟩|⟨rfl,ht⟩
 . clear hcf hb ht
   go_enter Tryz.func33,Tryz.ntmps33;go_wp2_with (first|(go_at_call 40;refine (gH.out _).mono ?_;rintro e E ⟨rfl,rfl⟩));go_ret;exact⟨rfl,HB0.out⟩
 . replace hb:Nv k F hi v=false∨(D.calls.getD s none).isSome=true:=hb.resolve_left (fun e=>by rw[e] at ht;cases ht)
   cases ho:Nv k F hi v with
   |false=>
    rw[ho] at hok;clear hcf hb ht ho;go_enter Tryz.func33,Tryz.ntmps33;go_wp2_with (first|(go_at_call 40;refine (gH.out _).mono ?_;rintro e E ⟨rfl,rfl⟩)|(go_at_call 68;refine (hok.out _).mono ?_;rintro e Y ⟨rfl,hb⟩;have H1:=zH (HW.out Y hb).1;clear hb));go_ret;exact⟨rfl,H1.out⟩
   |true=>
    rcases hcf with ⟨_,hc⟩|⟨rfl,hc⟩
    . rw[ho,hc] at hb
      rcases hb with hb|hb<;>cases hb
    rw[ho] at hok;clear hb ht ho hc;go_enter Tryz.func33,Tryz.ntmps33;go_wp2_with (first|(go_at_call 40;refine (gH.out _).mono ?_;rintro e E ⟨rfl,rfl⟩)|(go_at_call 68;refine (hok.out _).mono ?_;rintro e Y ⟨rfl,hb⟩;obtain⟨hbb,⟨y0,y1,y2,y3⟩,x1,x2⟩:=HW.out Y hb;have H1:=zH hbb;clear hb hbb));go_ret;exact⟨rfl,H1.out⟩
theorem Ng (H:Nat) (w:World) (s:Int) (hb:sI s=false):
 zk 34 #[R H 0,I s] w fun e E=>e=.returned (.tuple #[.agg #[I 0,I 0,I 0,.slice none 0 0,I 0,I 0],I 1])∧Below w.heap.size w E:=by
 have gH:=zH (qK s);rw[hb] at gH;have HB:=zH ((Below.refl _ w).alloc (zr _) (.cells #[I 0,I 0,I 0,.slice none 0 0,I 0,I 0] 81));clear hb;go_enter Tryz.func34,Tryz.ntmps34;go_wp2_with (first|(go_at_call 40;refine (gH.out _).mono ?_;rintro e E ⟨rfl,rfl⟩));refine bodyPost_ret (eD rfl _ _ w.heap.size 81 #[I 0,I 0,I 0,.slice none 0 0,I 0,I 0] _ _ rfl (heap_alloc_new w _) Tryz.underlying81 rfl (by kernel_rfl)) rfl ?_;exact⟨rfl,HB.out⟩
theorem PY (hL:Live A D w) (s:Nat) (hs:s<8) (hn:D.calls.getD s none=none):
 zk 34 #[R A.H 0,I s] w fun e E=>e=.returned (.tuple #[.agg #[I 0,I 0,I 0,.slice none 0 0,I 0,I 0],I 9])∧Below w.heap.size w E:=by
 have gH:=zH (qK (s:Int));rw[Nf hs] at gH;have b1:(s:Int)<8:=by omega
 have b0:(0:Int)<=(s:Int):=by omega
 have HB:=zH ((Below.refl _ w).alloc (zr _) (.cells #[I 0,I 0,I 0,.slice none 0 0,I 0,I 0] 81));have v1:(w.alloc (.cells #[I 0,I 0,I 0,.slice none 0 0,I 0,I 0] 81)).cell? (J A.H (13+s))=some (.pointer none):=((hL.rep.alloc _).df (13+s) (dP A D hs)).trans (by rw[hL.idle s hs hn]);clear hL hs hn;go_enter Tryz.func34,Tryz.ntmps34;go_wp2_with (first|(go_at_call 40;refine (gH.out _).mono ?_;rintro e E ⟨rfl,rfl⟩));refine bodyPost_ret (eD rfl _ _ w.heap.size 81 #[I 0,I 0,I 0,.slice none 0 0,I 0,I 0] _ _ rfl (heap_alloc_new w _) Tryz.underlying81 rfl (by kernel_rfl)) rfl ?_;exact⟨rfl,HB.out⟩
end Go.Proofs.YthicolbbmjfkfaaGreat.Em
namespace Go.Proofs.YthicolbbmjfkfaaGreat.Em
open Go.ChangeShapes Go.WideShapes Go.ChangeAt Go.RowKit En
open Cw (WF WC LI LK LZ aS)
end Go.Proofs.YthicolbbmjfkfaaGreat.Em
namespace Go.Proofs.YthicolbbmjfkfaaGreat.Em
open Go.ChangeShapes Go.WideShapes Go.ChangeAt Go.RowKit En
open Cw (WF WC)
end Go.Proofs.YthicolbbmjfkfaaGreat.Em
namespace Go.Proofs.YthicolbbmjfkfaaGreat.Em
open Go.ChangeShapes Go.WideShapes Go.ChangeAt Go.RowKit En
open Cw (WF)
def Gone (A:au) (w:World) (aH:St) (E:World):Prop:=∃ A',Live A' aH E∧Grow A.L w A'.L E∧A'.H=A.H
theorem Gone.same {A:au} {D:St} {w E:World} (hL:Live A D w) (hb:Below w.heap.size w E):Gone A w D E:=⟨A,hL.below hb,Grow.below hb,rfl⟩
end Go.Proofs.YthicolbbmjfkfaaGreat.Em
namespace Go.Proofs.YthicolbbmjfkfaaGreat.Em
open Go.ChangeShapes Go.WideShapes Go.ChangeAt Go.RowKit En
open Cw (WF WC LI EI)
structure EL (N L n:Nat) (D:St):Prop where
 li:LI N L n D
 ct:D.count<=8*n
 lk:D.aI<=8*n
 sq:D.seq<=n
theorem EL.wf {N L n:Nat} {D:St} (h:EL N L n D):WF N L n D:=h.li.wf
section
variable {N L n:Nat} {D:St}
theorem EL.mono {n':Nat} (h:EL N L n D) (hn:n<=n'):EL N L n' D:=⟨h.li.mono hn,by have:=h.ct;omega,by have:=h.lk;omega,by have:=h.sq;omega⟩
theorem EL.new {N L:Nat} (h1:N<=256) (h2:L<=1099511627776):EL N L 0 (new N L):=⟨LI.new h1 h2,zz _,zz _,zz _⟩
theorem EL.aJ (h:EL N L n D) (hn:n<300000) (hmd:D.aB<2000) (s az:Int):∃ (id er:Int) (aH:St),EL N L (n+3) aH∧aH.aB<=D.aB+1∧
 ∀ A w,Live A D w->zk 9 #[R A.H 0,I s,I az] w fun e E=>e=.returned (.tuple #[I id,I er])∧Gone A w aH E:=by
 have hct:=h.ct;have hw0:=(h.wf.sh.wd 0).u
 by_cases hok:sI s=true∧lI az=true
 . obtain⟨m,rfl,hm⟩:=Nc hok.1
   obtain⟨l,rfl,hl1,hl3⟩:=U8 hok.2
   cases ht:D.aj.getD m none with
   |some t=>
    refine⟨0,9,D,h.mono (by omega),oW _,fun A w lv=>?_⟩;refine (D7 lv m hm l hl1 hl3 t ht).mono ?_;rintro e E ⟨A',rfl,hL',g',e'⟩;exact⟨rfl,A',hL',g',e'⟩
   |none=>
    by_cases hlim:ai (D.word 0)<D.limit
    . obtain⟨aH,hb,hwf,hc1,hc2,hlk,Ct,aac,hcl,htx,hoth,hwd⟩:=h.wf.aJ hm ht hl1 hl3 hmd hlim (by omega) (by omega)
      refine⟨((D.aB+1:Nat):Int),0,aH,⟨(h.li.aJ hm hb hwf hoth hcl htx (h.wf.yN ht)).mono (by omega),by omega,by have:=h.lk;omega,by have:=h.sq;omega⟩,by omega,fun A w lv=>?_⟩;refine (DW hm hb A w lv).mono ?_;rintro e E ⟨A',rfl,hL',g',e'⟩;exact⟨rfl,A',hL',g',e'⟩
    . refine⟨0,16,D.tick,⟨h.li.tick.mono (by omega),by show D.count+1<=_;omega,by show D.aI<=_;have:=h.lk;omega,by show D.seq<=_;have:=h.sq;omega⟩,oW _,fun A w lv=>?_⟩
      refine (Gi lv m hm l hl1 hl3 ht hmd hw0 (by omega) (by omega)).mono ?_;rintro e E ⟨A',rfl,hL',g',e'⟩;exact⟨rfl,A',hL',g',e'⟩
 . have hb:sI s=false∨lI az=false:=by
    cases h1:sI s with
    |false=>exact .inl rfl
    |true=>
     cases h2:lI az with
     |false=>exact .inr rfl
     |true=>exact absurd ⟨h1,h2⟩ hok
   refine⟨0,1,D,h.mono (by omega),oW _,fun A w lv=>(Kc A.H w s az hb).mono ?_⟩;rintro e E ⟨rfl,rfl⟩;exact⟨rfl,Gone.same lv (Below.refl _ _)⟩
theorem EL.mf (h:EL N L n D) (hn:n<300000) (s k F hi v:Int):∃ (er:Int) (aH:St),EL N L (n+3) aH∧aH.aB=D.aB∧
 ∀ A w,Live A D w->zk 33 #[R A.H 0,I s,.agg #[I k,I F,I hi,I v]] w fun e E=>e=.returned (I er)∧Gone A w aH E:=by
 have hsame:EL N L (n+3) D:=h.mono (by omega)
 cases hs:sI s with
 |false=>exact⟨1,D,hsame,rfl,fun A w lv=>(Ke A.H w s k F hi v hs).mono (fun e E x=>⟨x.1,Gone.same lv x.2⟩)⟩
 |true=>
  obtain⟨m,rfl,hm⟩:=Nc hs
  cases ht:D.aj.getD m none with
  |none=>exact⟨9,D,hsame,rfl,fun A w lv=>(yP lv m hm k F hi v (.inl ht)).mono (fun e E x=>⟨x.1,Gone.same lv x.2⟩)⟩
  |some t=>
   cases ho:Nv k F hi v with
   |false=>exact⟨9,D,hsame,rfl,fun A w lv=>(yP lv m hm k F hi v (.inr (.inl ho))).mono (fun e E x=>⟨x.1,Gone.same lv x.2⟩)⟩
   |true=>
    cases hc:D.calls.getD m none with
    |some c=>exact⟨9,D,hsame,rfl,fun A w lv=>(yP lv m hm k F hi v (.inr (.inr (by rw[hc];rfl)))).mono (fun e E x=>⟨x.1,Gone.same lv x.2⟩)⟩
    |none=>
     obtain⟨o,rfl,rfl,rfl,rfl,YG⟩:=Si ho
     by_cases Nh:12<=t.ops∧iB o=false
     . exact⟨65,D,hsame,rfl,fun A w lv=>(Hf lv m hm t ht o YG Nh.2 hc Nh.1).mono (fun e E x=>⟨x.1,Gone.same lv x.2⟩)⟩
     . have hop:t.ops<12∨iB o=true:=by
        by_cases h12:t.ops<12
        . exact .inl h12
        . right
          cases e:iB o with
          |true=>rfl
          |false=>exact absurd ⟨by omega,e⟩ Nh
       have Ct:=h.sq;have hct:=h.ct;have hlk:=h.lk;obtain⟨aH,hi,hwf,e1,e2,e3,e4,-⟩:=h.wf.mf hm ht hc YG hop (by omega) (by omega);refine⟨0,aH,⟨(h.li.mf hm hi hwf).mono (by omega),by omega,by omega,by omega⟩,e4,fun A w lv=>(DV hm hi A w lv).mono ?_⟩;rintro e E ⟨A',rfl,hL',g',e'⟩;exact⟨rfl,A',hL',g',e'⟩
theorem EL.step (h:EL N L n D) (hn:n<300000) (s:Int):∃ (kd re rv rn ro er:Int) (ps:List (Nat×Nat)) (aH:St),EL N L (n+3) aH∧aH.aB=D.aB∧
 ∀ A w,Live A D w->zk 34 #[R A.H 0,I s] w fun e E=>∃ A' vp,e=.returned (.tuple #[.agg #[I kd,I re,I rv,vp,I rn,I ro],I er])∧dS A'.L E 2 vp (bJ ps)∧Live A' aH E∧Grow A.L w A'.L E∧A'.H=A.H:=by
 have hsame:EL N L (n+3) D:=h.mono (by omega)
 cases hs:sI s with
 |false=>
  refine⟨0,0,0,0,0,1,[],D,hsame,rfl,fun A w lv=>(Ng A.H w s hs).mono ?_⟩;rintro e E ⟨rfl,hb⟩;exact⟨A,_,rfl,dS.nil _ _ _,lv.below hb,Grow.below hb,rfl⟩
 |true=>
  obtain⟨m,rfl,hm⟩:=Nc hs
  cases hc:D.calls.getD m none with
  |none=>
   refine⟨0,0,0,0,0,9,[],D,hsame,rfl,fun A w lv=>(PY lv m hm hc).mono ?_⟩;rintro e E ⟨rfl,hb⟩;exact⟨A,_,rfl,dS.nil _ _ _,lv.below hb,Grow.below hb,rfl⟩
  |some c=>
   have hct:=h.ct;have hlk:=h.lk;have Ct:=h.sq;obtain⟨aH,kd,r,hst,hwf,c1,c2,l1,l2,JW,hmd,-⟩:=h.wf.step hm hc (by omega) (by omega) (by omega);exact⟨kd,r.e,r.value,r.over,r.aQ,0,r.aO,aH,⟨h.li.step hm hst hwf,by omega,by omega,by omega⟩,hmd,fun A w lv=>xI lv hm hst⟩
theorem EL.cz (h:EL N L n D) (hn:n<300000):EL N L (n+3) D.cz.1∧D.cz.1.aB=D.aB∧
 ∀ A w,Live A D w->zk 35 #[R A.H 0] w fun e E=>e=.returned (.bool D.cz.2)∧Gone A w D.cz.1 E:=by
 have hct:=h.ct;have hlk:=h.lk;have Ct:=h.sq;obtain⟨h1,h2,h3,h4,h5,h6,h7,-⟩:=h.wf.cz;refine⟨⟨h.li.cz.mono (by omega),by omega,by omega,by omega⟩,h7,fun A w lv=>?_⟩;have hok:pK D=true:=h.wf.pK (by omega) (by omega) (by omega);refine (JP lv hok).mono ?_;rintro e E ⟨rfl,A',s1,hL',g'⟩;have hbe:A'.H=A.H:=by obtain⟨⟨L,v,c,f,m,hc',gc,cs,rfl⟩,_⟩:=s1;rfl
 exact⟨rfl,A',hL',g',hbe⟩
end
end Go.Proofs.YthicolbbmjfkfaaGreat.Em
namespace Go.Proofs.YthicolbbmjfkfaaGreat.Em
open Go.ChangeShapes Go.WideShapes Go.ChangeAt Go.RowKit En
open Cw (WF WC LI EI turn mK rounds)
theorem Ni {D aH:St} {s:Nat} (h:turn D s=some aH):∃ b,xK D s=some (aH,b):=by
 unfold turn at h;unfold xK
 cases ht:D.aj.getD s none with
 |none=>
  rw[ht] at h;have hl:(D.status s).live=false:=by unfold St.status;rw[ht]
  rw[aV hl];simp at h;exact⟨false,by rw[h]⟩
 |some t=>
  rw[ht] at h;have hl:(D.status s).live=true:=by unfold St.status;rw[ht]
  have hb:(D.status s).busy=(D.calls.getD s none).isSome:=by unfold St.status;rw[ht]
  rw[aR (by rw[hl];simp),hb]
  cases hc:D.calls.getD s none with
  |none=>
   rw[hc] at h;simp at h;have h':jh D s ⟨6,0,0,0⟩=some aH:=h;exact⟨false,by simp[h']⟩
  |some c=>
   rw[hc] at h
   cases ho:jg D s with
   |none=>rw[ho] at h;simp at h
   |some x=>
    obtain⟨a,b,d⟩:=x;rw[ho] at h;simp at h;exact⟨true,by simp[h]⟩
theorem vX:∀ (l:List Nat) (D aH:St) (n:Nat),mK l D=some aH->∃ n1,ma l D n=some (aH,n1)∧n1<=n+l.length
 |[],D,aH,n,h=>⟨n,by unfold mK at h;unfold ma;rw[zj h],by simp⟩
 |s::l,D,aH,n,h=>by
  unfold mK at h
  cases ht:turn D s with
  |none=>rw[ht] at h;cases h
  |some σ0=>
   rw[ht] at h;obtain⟨b,hb⟩:=Ni ht;obtain⟨n1,h1,h2⟩:=vX l σ0 aH (if b=true then n+1 else n) h;refine⟨n1,?_,?_⟩
   . unfold ma;rw[hb];exact h1
   . rw[List.length_cons];split at h2<;>omega
theorem Hg {N L aa most:Nat} {l:List Nat} (hl:∀ s∈l,s<8) (hG:2000<=aa) (J6:aa<900000):∀ (j:Nat) (D bB:St) (M n:Nat),EI N L aa M D->rounds l j D=some bB->bB.live.length=0->n+l.length*j<=most->M+l.length*j<1000000000000->
 ∃ aD n2,j6 l most (j+1) D n=some (aD,n2,true)∧EI N L aa (M+l.length*j) aD:=by
 intro j
 induction j with
 |zero=>
  intro D bB M n h hr hz _ _;unfold rounds at hr;obtain rfl:=zj hr;exact⟨D,n,by unfold j6;rw[aV hz],h⟩
 |succ j ih=>
  intro D bB M n h hr hz hm hM;rw[Nat.mul_succ] at hm hM
  by_cases h0:D.live.length=0
  . exact⟨D,n,by unfold j6;rw[aV h0],⟨h.li,by have:=h.ct;omega,by have:=h.lk;omega,by have:=h.sq;omega,h.ga,h.cu⟩⟩
  . obtain⟨aH,e1,h1,-⟩:=Cw.EI.mK l D M h hG J6 (by omega) hl
    unfold rounds at hr;rw[e1] at hr;obtain⟨n1,r1,r2⟩:=vX l D aH n e1;obtain⟨aD,n2,k1,k2⟩:=ih aH bB (M+l.length) n1 h1 hr hz (by omega) (by omega);refine⟨aD,n2,?_,?_⟩
    . unfold j6
      rw[aR h0,r1];simp only;rw[aR (by omega)];exact k1
    . rw[Nat.mul_succ,show M+(l.length*j+l.length)=M+l.length+l.length*j by omega];exact k2
theorem PZ (k:Nat) (h0:k≠0) (Z:k<=8):10000000<=mF k:=by
 match k,h0,Z with
 |0,h,_=>exact absurd rfl h
 |1,_,_|2,_,_|3,_,_|4,_,_|5,_,_|6,_,_|7,_,_|8,_,_=>decide +kernel
 |k+9,_,h=>omega
theorem EL.fin {N L n:Nat} {D:St} (h:EL N L n D) (hn:n<=50000) (hN:N<=256):∃ ae aD k,ae<=100000∧j6 (List.range 8) (mF D.live.length) ae D 0=some (aD,k,true)∧aD.aT.length<100000∧∀ e∈aD.aT,e.res.aO.length<=64:=by
 have Ct:=h.sq;have hi:EI N L (n+18032) (8*n) D:=h.li.Xv h.ct h.lk (by omega);have fin:∀ {aa M:Nat} {τ:St},EI N L aa M τ->aa<100000->τ.aT.length<100000∧∀ e∈τ.aT,e.res.aO.length<=64:=fun {aa M τ} x hg=>⟨Nat.lt_of_le_of_lt x.li.wf.sh.tl hg,x.li.wf.sh.tp⟩
 by_cases h0:D.live.length=0
 . exact⟨1,D,0,by omega,by unfold j6;rw[aV h0],fin hi (by omega)⟩
 . have hm:=PZ _ h0 (uR D 8)
   have h8:∀ s∈List.range 8,s<8:=fun s hs=>List.mem_range.1 hs
   obtain⟨j,bB,h1,h2,h3,-,-⟩:=hi.ends (l:=List.range 8) h8 (fun s hs=>List.mem_range.2 hs) (by omega) (by omega) (by rw[List.length_range];omega);obtain⟨aD,k,k1,k2⟩:=Hg (most:=mF D.live.length) h8 (by omega) (by omega) j D bB (8*n) 0 hi h2 h3 (by rw[List.length_range];omega) (by rw[List.length_range];omega);exact⟨j+1,aD,k,by omega,k1,fin k2 (by omega)⟩
end Go.Proofs.YthicolbbmjfkfaaGreat.Em
namespace Go.Proofs.YthicolbbmjfkfaaGreat.Em
open Go.ChangeShapes Go.WideShapes Go.ChangeAt Go.RowKit En
theorem size_alloc (w:World) (o:Obj):(w.alloc o).heap.size=w.heap.size+1:=by simp
theorem oV {A0:au} {w0 w w4:World} {fx:List (Nat×Obj)} {D:St} {a0 a1 a2 a3 a4 a5 a6 a7 vp:Value} {er id kd re rv rn ro:Int} {ps:List (Nat×Nat)} {T:TypeId} {g:Nat} {p:Nat×Obj} {rs:List (Value×List Value)}
 (h:TV A0 w0 fx [p,(g,.cells #[a0,a1,a2,a3,a4,a5,a6,a7] T)] ((vp,bJ ps)::rs) D w4) (hp:p.1≠g)
 (hw:w4.setCells g 0 [I er,I id,I kd,I re,I rv,vp,I rn,I ro]=w):
 w.heap[g]? =some (.cells #[I er,I id,I kd,I re,I rv,vp,I rn,I ro] T)∧
 vP A0 w0 D er id kd re rv rn ro ps (.returned (.agg #[I er,I id,I kd,I re,I rv,vp,I rn,I ro])) w:=by
 have hr:=h.varOf (k:=g) (o:=.cells #[a0,a1,a2,a3,a4,a5,a6,a7] T) (by simp);have fQ:=But.setCells g [I er,I id,I kd,I re,I rv,vp,I rn,I ro] 0 w4;have hfin:=xN hr (I er) (I id) (I kd) (I re) (I rv) vp (I rn) (I ro);rw[hw] at fQ hfin;obtain⟨p1,p2⟩:=p;exact⟨hfin,(h.swap.put (by intro q hm;simp at hm;exact hp hm.1.symm) fQ hfin).UJ⟩
theorem Kg {w:World} {b:Nat} {a0 a1 a2 a3 a4 a5 a6 a7:Value} {T:TypeId} (h:w.heap[b]? =some (.cells #[a0,a1,a2,a3,a4,a5,a6,a7] T)) (v2 v3 v4 v5 v6 v7:Value):(w.setCells b 2 [v2,v3,v4,v5,v6,v7]).heap[b]? =some (.cells #[a0,a1,v2,v3,v4,v5,v6,v7] T):=by
 have h3:=heap_setCell_same h 2 v2;have h4:=heap_setCell_same h3 3 v3;have h5:=heap_setCell_same h4 4 v4;have h6:=heap_setCell_same h5 5 v5;have h7:=heap_setCell_same h6 6 v6;have h8:=heap_setCell_same h7 7 v7;exact h8
theorem TV.mid {A0:au} {w0 w:World} {fx vs:List (Nat×Obj)} {rs:List (Value×List Value)} {D:St} {g:Nat} {a0 a1 a2 a3 a4 a5 a6 a7:Value} {T:TypeId} (h:TV A0 w0 fx ((g,.cells #[a0,a1,a2,a3,a4,a5,a6,a7] T)::vs) rs D w) (hv:∀ p,(g,p) ∉ vs) (v2 v3 v4 v5 v6 v7:Value):
 TV A0 w0 fx ((g,.cells #[a0,a1,v2,v3,v4,v5,v6,v7] T)::vs) rs D (w.setCells g 2 [v2,v3,v4,v5,v6,v7]):=
 h.put hv (But.setCells g _ 2 w) (Kg (h.varOf nK) v2 v3 v4 v5 v6 v7)
theorem Kh {w:World} {b:Nat} {cs:Array Value} {T:TypeId} (h:w.heap[b]? =some (.cells cs T)):∀ o n,o+n<=cs.size->w.there b o n:=by
 intro o n hn j hj;refine⟨?_,by simp[World.frozen?,h]⟩;rw[cell_of_row w b (o+j) _ _ _ h];simp;omega
theorem vY {A0:au} {D aH:St} {w0:World} {pl H:Nat} (s lv ok oy oh ov:Int) (hV:bR.V ⟨1,s,lv,ok,oy,oh,ov⟩) (hbe:A0.H=H) (hL:Live A0 D w0) (hf:Fix A0.L w0 pl (bC H)) {id er:Int}
 (hc:∀ A w,Live A D w->A.H=H->zk 9 #[R H 0,I s,I lv] w fun x E=>x=.returned (.tuple #[I id,I er])∧Gone A w aH E):
 zk 27 #[R pl 0,.agg #[I 1,I s,I lv,I ok,I oy,I oh,I ov]] w0 (vP A0 w0 aH er id 0 0 0 0 0 []):=by
 have Hl:=zH (fun w=>bR.MZ _ hV w);have qf:=fun bB vs rs E (T:TV A0 w0 [(w0.heap.size,(.cells #[I 1,I s,I lv,I ok,I oy,I oh,I ov] 71)),(pl,bC H)] vs rs bB E)=>LV (ay (T.rF (k:=pl) (o:=bC H) (by simp)) 0 rfl).1 (T.rF (k:=w0.heap.size) (o:=(.cells #[I 1,I s,I lv,I ok,I oy,I oh,I ov] 71)) (by simp))
 replace qf:=zH qf;have HV:Hid (∀ p:Obj,(w0.heap.size+1+1,p) ∉ [(w0.heap.size+1,(.cells #[I 0,I 0,I 0,I 0,I 0,.slice none 0 0,I 0,I 0] 83))]):=fun p hm=>by simp at hm
 have T1:Hid (TV A0 w0 [(w0.heap.size,(.cells #[I 1,I s,I lv,I ok,I oy,I oh,I ov] 71)),(pl,bC H)] [(w0.heap.size+1+1,(.cells #[I 0,I 0,I 0,I 0,I 0,.slice none 0 0,I 0,I 0] 83)),(w0.heap.size+1,(.cells #[I 0,I 0,I 0,I 0,I 0,.slice none 0 0,I 0,I 0] 83))] [] D (((w0.alloc (.cells #[I 1,I s,I lv,I ok,I oy,I oh,I ov] 71)).alloc (.cells #[I 0,I 0,I 0,I 0,I 0,.slice none 0 0,I 0,I 0] 83)).alloc (.cells #[I 0,I 0,I 0,I 0,I 0,.slice none 0 0,I 0,I 0] 83))):=by
  have h:=(((TV.start hL hf).alloc (.cells #[I 1,I s,I lv,I ok,I oy,I oh,I ov] 71)).var (.cells #[I 0,I 0,I 0,I 0,I 0,.slice none 0 0,I 0,I 0] 83)).var (.cells #[I 0,I 0,I 0,I 0,I 0,.slice none 0 0,I 0,I 0] 83);simp only[size_alloc] at h;exact h
 have HC:Hid (∀ fx vs rs w,TV A0 w0 fx vs rs D w->zk 9 #[R H 0,I s,I lv] w fun x E=>x=.returned (.tuple #[I id,I er])∧TV A0 w0 fx vs rs aH E):=fun fx vs rs w T=>T.call (be:=fun x=>x=.returned (.tuple #[I id,I er])) fun A l e=>hc A w l (e.trans hbe)
 clear hL hf hbe hc hV;go_enter Tryz.func27,Tryz.ntmps27;go_upto_region 6 with ((go_at_call 66;refine (Hl.out _).mono ?_;rintro e wB ⟨rfl,hb⟩;have T2:=zH (T1.out.below hb);obtain⟨p0,e0,e1,e2,e3,e4,e5,e6⟩:=qf.out _ _ _ _ T2.out;clear hb T1))
 have I1:=zH (T2.out.below (Below.refl _ _).drew)
 go_region_held3 (fun E=>zS E pl 0 H 0∧zT E w0.heap.size 0 1∧zT E w0.heap.size 1 s∧zT E w0.heap.size 2 lv∧zT E w0.heap.size 3 ok∧zT E w0.heap.size 4 oy∧zT E w0.heap.size 5 oh∧zT E w0.heap.size 6 ov)
  (first|exact⟨p0,e0,e1,e2,e3,e4,e5,e6⟩|assumption|go_keep|exact qf.out _ _ _ _ T3.out|exact qf.out _ _ _ _ (T3.out.set HV.out _ _)|exact qf.out _ _ _ _ ((T3.out.set HV.out _ _).set HV.out _ _))
  (first|(go_at_call 9;refine (HC.out _ _ _ _ I1.out).mono ?_;rintro x w3 ⟨rfl,q3⟩;have T3:=zH q3;obtain⟨y0,z0⟩:=ay (T3.out.varOf (k:=w0.heap.size+1+1) (o:=(.cells #[I 0,I 0,I 0,I 0,I 0,.slice none 0 0,I 0,I 0] 83)) (by simp)) 0 rfl;obtain⟨y1,z1⟩:=ay (T3.out.varOf (k:=w0.heap.size+1+1) (o:=(.cells #[I 0,I 0,I 0,I 0,I 0,.slice none 0 0,I 0,I 0] 83)) (by simp)) 1 rfl;obtain⟨y2,z2⟩:=ay (T3.out.varOf (k:=w0.heap.size+1+1) (o:=(.cells #[I 0,I 0,I 0,I 0,I 0,.slice none 0 0,I 0,I 0] 83)) (by simp)) 2 rfl;clear q3 T2 I1))
 all_goals (
  first
  | (have T4 := zH ((T3.out.set HV.out 1 (I id)).set HV.out 0 (I er)); generalize hw4 : World.setCell (World.setCell w3 ⟨w0.heap.size + 1 + 1, 1, none⟩ (I id)) ⟨w0.heap.size + 1 + 1, 0, none⟩ (I er) = w4 at *; clear hw4
     have T4:=zH ((by simpa only[List.setIfInBounds_toArray,List.set_cons_zero,List.set_cons_succ] using T4.out):TV A0 w0 [(w0.heap.size,(.cells #[I 1,I s,I lv,I ok,I oy,I oh,I ov] 71)),(pl,bC H)] [(w0.heap.size+1+1,(.cells #[I er,I id,I 0,I 0,I 0,.slice none 0 0,I 0,I 0] 83)),(w0.heap.size+1,(.cells #[I 0,I 0,I 0,I 0,I 0,.slice none 0 0,I 0,I 0] 83))] [] aH w4)
     have ho:=T4.out.varOf (k:=w0.heap.size+1+1) (o:=(.cells #[I er,I id,I 0,I 0,I 0,.slice none 0 0,I 0,I 0] 83)) (by simp)
     obtain⟨o0,_⟩:=ay ho 0 rfl
     obtain⟨o1,_⟩:=ay ho 1 rfl
     obtain⟨o2,_⟩:=ay ho 2 rfl
     obtain⟨o3,_⟩:=ay ho 3 rfl
     obtain⟨o4,_⟩:=ay ho 4 rfl
     obtain⟨o5,_⟩:=ay ho 5 rfl
     obtain⟨o6,_⟩:=ay ho 6 rfl
     obtain⟨o7,_⟩:=ay ho 7 rfl
     have tJ:=zH (gM (T4.out.varOf (k:=w0.heap.size+1) (o:=(.cells #[I 0,I 0,I 0,I 0,I 0,.slice none 0 0,I 0,I 0] 83)) (by simp)))
     clear ho
     go_wp2_with ((refine wpList_store_mid rfl 83 (.tmp 4) (.tmp 63) rfl (w0.heap.size+1) 0 #[I er,I id,I 0,I 0,I 0,.slice none 0 0,I 0,I 0] rfl rfl tJ.out (by kernel_rfl) (by simp[Value.oneCell']) ?_;generalize hws:World.setCells _ _ _ _=ws))
     obtain⟨hfin,hpl⟩:=oV (T4.out.none) (by simp) hws
     refine bodyPost_ret (results_cell_row rfl _ _ (w0.heap.size+1) 83 #[I er,I id,I 0,I 0,I 0,.slice none 0 0,I 0,I 0] _ _ rfl hfin Tryz.underlying83 rfl (by kernel_rfl)) rfl ?_
     exact hpl)
  | (have T4 := zH ((T3.out.set HV.out 0 (I er)).set HV.out 1 (I id)); generalize hw4 : World.setCell (World.setCell w3 ⟨w0.heap.size + 1 + 1, 0, none⟩ (I er)) ⟨w0.heap.size + 1 + 1, 1, none⟩ (I id) = w4 at *; clear hw4
     have T4:=zH ((by simpa only[List.setIfInBounds_toArray,List.set_cons_zero,List.set_cons_succ] using T4.out):TV A0 w0 [(w0.heap.size,(.cells #[I 1,I s,I lv,I ok,I oy,I oh,I ov] 71)),(pl,bC H)] [(w0.heap.size+1+1,(.cells #[I er,I id,I 0,I 0,I 0,.slice none 0 0,I 0,I 0] 83)),(w0.heap.size+1,(.cells #[I 0,I 0,I 0,I 0,I 0,.slice none 0 0,I 0,I 0] 83))] [] aH w4)
     have ho:=T4.out.varOf (k:=w0.heap.size+1+1) (o:=(.cells #[I er,I id,I 0,I 0,I 0,.slice none 0 0,I 0,I 0] 83)) (by simp)
     obtain⟨o0,_⟩:=ay ho 0 rfl
     obtain⟨o1,_⟩:=ay ho 1 rfl
     obtain⟨o2,_⟩:=ay ho 2 rfl
     obtain⟨o3,_⟩:=ay ho 3 rfl
     obtain⟨o4,_⟩:=ay ho 4 rfl
     obtain⟨o5,_⟩:=ay ho 5 rfl
     obtain⟨o6,_⟩:=ay ho 6 rfl
     obtain⟨o7,_⟩:=ay ho 7 rfl
     have tJ:=zH (gM (T4.out.varOf (k:=w0.heap.size+1) (o:=(.cells #[I 0,I 0,I 0,I 0,I 0,.slice none 0 0,I 0,I 0] 83)) (by simp)))
     clear ho
     go_wp2_with ((refine wpList_store_mid rfl 83 (.tmp 4) (.tmp 63) rfl (w0.heap.size+1) 0 #[I er,I id,I 0,I 0,I 0,.slice none 0 0,I 0,I 0] rfl rfl tJ.out (by kernel_rfl) (by simp[Value.oneCell']) ?_;generalize hws:World.setCells _ _ _ _=ws))
     obtain⟨hfin,hpl⟩:=oV (T4.out.none) (by simp) hws
     refine bodyPost_ret (results_cell_row rfl _ _ (w0.heap.size+1) 83 #[I er,I id,I 0,I 0,I 0,.slice none 0 0,I 0,I 0] _ _ rfl hfin Tryz.underlying83 rfl (by kernel_rfl)) rfl ?_
     exact hpl)
 )
theorem E5 {A0:au} {D aH:St} {w0:World} {pl H:Nat} (s lv ok oy oh ov:Int) (hV:bR.V ⟨2,s,lv,ok,oy,oh,ov⟩) (hbe:A0.H=H) (hL:Live A0 D w0) (hf:Fix A0.L w0 pl (bC H)) {er:Int}
 (hc:∀ A w,Live A D w->A.H=H->zk 33 #[R H 0,I s,.agg #[I ok,I oy,I oh,I ov]] w fun x E=>x=.returned (I er)∧Gone A w aH E):
 zk 27 #[R pl 0,.agg #[I 2,I s,I lv,I ok,I oy,I oh,I ov]] w0 (vP A0 w0 aH er 0 0 0 0 0 0 []):=by
 have Hl:=zH (fun w=>bR.MZ _ hV w);have qf:=fun bB vs rs E (T:TV A0 w0 [(w0.heap.size,(.cells #[I 2,I s,I lv,I ok,I oy,I oh,I ov] 71)),(pl,bC H)] vs rs bB E)=>LV (ay (T.rF (k:=pl) (o:=bC H) (by simp)) 0 rfl).1 (T.rF (k:=w0.heap.size) (o:=(.cells #[I 2,I s,I lv,I ok,I oy,I oh,I ov] 71)) (by simp))
 replace qf:=zH qf;have HV:Hid (∀ p:Obj,(w0.heap.size+1+1,p) ∉ [(w0.heap.size+1,(.cells #[I 0,I 0,I 0,I 0,I 0,.slice none 0 0,I 0,I 0] 83))]):=fun p hm=>by simp at hm
 have T1:Hid (TV A0 w0 [(w0.heap.size,(.cells #[I 2,I s,I lv,I ok,I oy,I oh,I ov] 71)),(pl,bC H)] [(w0.heap.size+1+1,(.cells #[I 0,I 0,I 0,I 0,I 0,.slice none 0 0,I 0,I 0] 83)),(w0.heap.size+1,(.cells #[I 0,I 0,I 0,I 0,I 0,.slice none 0 0,I 0,I 0] 83))] [] D (((w0.alloc (.cells #[I 2,I s,I lv,I ok,I oy,I oh,I ov] 71)).alloc (.cells #[I 0,I 0,I 0,I 0,I 0,.slice none 0 0,I 0,I 0] 83)).alloc (.cells #[I 0,I 0,I 0,I 0,I 0,.slice none 0 0,I 0,I 0] 83))):=by
  have h:=(((TV.start hL hf).alloc (.cells #[I 2,I s,I lv,I ok,I oy,I oh,I ov] 71)).var (.cells #[I 0,I 0,I 0,I 0,I 0,.slice none 0 0,I 0,I 0] 83)).var (.cells #[I 0,I 0,I 0,I 0,I 0,.slice none 0 0,I 0,I 0] 83);simp only[size_alloc] at h;exact h
 have HC:Hid (∀ fx vs rs w,TV A0 w0 fx vs rs D w->zk 33 #[R H 0,I s,.agg #[I ok,I oy,I oh,I ov]] w fun x E=>x=.returned (I er)∧TV A0 w0 fx vs rs aH E):=fun fx vs rs w T=>T.call (be:=fun x=>x=.returned (I er)) fun A l e=>hc A w l (e.trans hbe)
 clear hL hf hbe hc hV;go_enter Tryz.func27,Tryz.ntmps27;go_upto_region 8 with ((go_at_call 66;refine (Hl.out _).mono ?_;rintro e wB ⟨rfl,hb⟩;have T2:=zH (T1.out.below hb);obtain⟨p0,e0,e1,e2,e3,e4,e5,e6⟩:=qf.out _ _ _ _ T2.out;clear hb T1))
 have I1:=zH (T2.out.below (Below.refl _ _).drew)
 go_region_held3 (fun E=>zS E pl 0 H 0∧zT E w0.heap.size 0 2∧zT E w0.heap.size 1 s∧zT E w0.heap.size 2 lv∧zT E w0.heap.size 3 ok∧zT E w0.heap.size 4 oy∧zT E w0.heap.size 5 oh∧zT E w0.heap.size 6 ov)
  (first|exact⟨p0,e0,e1,e2,e3,e4,e5,e6⟩|assumption|go_keep|exact qf.out _ _ _ _ T3.out|exact qf.out _ _ _ _ (T3.out.set HV.out _ _)|exact qf.out _ _ _ _ ((T3.out.set HV.out _ _).set HV.out _ _))
  (first|(go_at_call 33;refine (HC.out _ _ _ _ I1.out).mono ?_;rintro x w3 ⟨rfl,q3⟩;have T3:=zH q3;obtain⟨y0,z0⟩:=ay (T3.out.varOf (k:=w0.heap.size+1+1) (o:=(.cells #[I 0,I 0,I 0,I 0,I 0,.slice none 0 0,I 0,I 0] 83)) (by simp)) 0 rfl;obtain⟨y1,z1⟩:=ay (T3.out.varOf (k:=w0.heap.size+1+1) (o:=(.cells #[I 0,I 0,I 0,I 0,I 0,.slice none 0 0,I 0,I 0] 83)) (by simp)) 1 rfl;obtain⟨y2,z2⟩:=ay (T3.out.varOf (k:=w0.heap.size+1+1) (o:=(.cells #[I 0,I 0,I 0,I 0,I 0,.slice none 0 0,I 0,I 0] 83)) (by simp)) 2 rfl;clear q3 T2 I1))
 have T4:=zH (T3.out.set HV.out 0 (I er));generalize hw4:World.setCell w3 ⟨w0.heap.size+1+1,0,none⟩ (I er)=w4 at*;clear hw4;have T4:=zH ((by simpa only[List.setIfInBounds_toArray,List.set_cons_zero,List.set_cons_succ] using T4.out):TV A0 w0 [(w0.heap.size,(.cells #[I 2,I s,I lv,I ok,I oy,I oh,I ov] 71)),(pl,bC H)] [(w0.heap.size+1+1,(.cells #[I er,I 0,I 0,I 0,I 0,.slice none 0 0,I 0,I 0] 83)),(w0.heap.size+1,(.cells #[I 0,I 0,I 0,I 0,I 0,.slice none 0 0,I 0,I 0] 83))] [] aH w4);have ho:=T4.out.varOf (k:=w0.heap.size+1+1) (o:=(.cells #[I er,I 0,I 0,I 0,I 0,.slice none 0 0,I 0,I 0] 83)) (by simp);obtain⟨o0,_⟩:=ay ho 0 rfl;obtain⟨o1,_⟩:=ay ho 1 rfl;obtain⟨o2,_⟩:=ay ho 2 rfl;obtain⟨o3,_⟩:=ay ho 3 rfl;obtain⟨o4,_⟩:=ay ho 4 rfl;obtain⟨o5,_⟩:=ay ho 5 rfl;obtain⟨o6,_⟩:=ay ho 6 rfl;obtain⟨o7,_⟩:=ay ho 7 rfl;have tJ:=zH (gM (T4.out.varOf (k:=w0.heap.size+1) (o:=(.cells #[I 0,I 0,I 0,I 0,I 0,.slice none 0 0,I 0,I 0] 83)) (by simp)));clear ho;go_wp2_with ((refine wpList_store_mid rfl 83 (.tmp 4) (.tmp 63) rfl (w0.heap.size+1) 0 #[I er,I 0,I 0,I 0,I 0,.slice none 0 0,I 0,I 0] rfl rfl tJ.out (by kernel_rfl) (by simp[Value.oneCell']) ?_;generalize hws:World.setCells _ _ _ _=ws));obtain⟨hfin,hpl⟩:=oV (T4.out.none) (by simp) hws;refine bodyPost_ret (results_cell_row rfl _ _ (w0.heap.size+1) 83 #[I er,I 0,I 0,I 0,I 0,.slice none 0 0,I 0,I 0] _ _ rfl hfin Tryz.underlying83 rfl (by kernel_rfl)) rfl ?_;exact hpl
theorem Cq {A0:au} {D aH:St} {w0:World} {pl H:Nat} (s lv ok oy oh ov:Int) (hV:bR.V ⟨4,s,lv,ok,oy,oh,ov⟩) (hbe:A0.H=H) (hL:Live A0 D w0) (hf:Fix A0.L w0 pl (bC H))
 (hc:∀ A w,Live A D w->A.H=H->zk 35 #[R H 0] w fun x E=>x=.returned (.bool true)∧Gone A w aH E):
 zk 27 #[R pl 0,.agg #[I 4,I s,I lv,I ok,I oy,I oh,I ov]] w0 (vP A0 w0 aH 0 0 1 0 0 0 0 []):=by
 have Hl:=zH (fun w=>bR.MZ _ hV w);have qf:=fun bB vs rs E (T:TV A0 w0 [(w0.heap.size,(.cells #[I 4,I s,I lv,I ok,I oy,I oh,I ov] 71)),(pl,bC H)] vs rs bB E)=>LV (ay (T.rF (k:=pl) (o:=bC H) (by simp)) 0 rfl).1 (T.rF (k:=w0.heap.size) (o:=(.cells #[I 4,I s,I lv,I ok,I oy,I oh,I ov] 71)) (by simp))
 replace qf:=zH qf;have HV:Hid (∀ p:Obj,(w0.heap.size+1+1,p) ∉ [(w0.heap.size+1,(.cells #[I 0,I 0,I 0,I 0,I 0,.slice none 0 0,I 0,I 0] 83))]):=fun p hm=>by simp at hm
 have T1:Hid (TV A0 w0 [(w0.heap.size,(.cells #[I 4,I s,I lv,I ok,I oy,I oh,I ov] 71)),(pl,bC H)] [(w0.heap.size+1+1,(.cells #[I 0,I 0,I 0,I 0,I 0,.slice none 0 0,I 0,I 0] 83)),(w0.heap.size+1,(.cells #[I 0,I 0,I 0,I 0,I 0,.slice none 0 0,I 0,I 0] 83))] [] D (((w0.alloc (.cells #[I 4,I s,I lv,I ok,I oy,I oh,I ov] 71)).alloc (.cells #[I 0,I 0,I 0,I 0,I 0,.slice none 0 0,I 0,I 0] 83)).alloc (.cells #[I 0,I 0,I 0,I 0,I 0,.slice none 0 0,I 0,I 0] 83))):=by
  have h:=(((TV.start hL hf).alloc (.cells #[I 4,I s,I lv,I ok,I oy,I oh,I ov] 71)).var (.cells #[I 0,I 0,I 0,I 0,I 0,.slice none 0 0,I 0,I 0] 83)).var (.cells #[I 0,I 0,I 0,I 0,I 0,.slice none 0 0,I 0,I 0] 83);simp only[size_alloc] at h;exact h
 have HC:Hid (∀ fx vs rs w,TV A0 w0 fx vs rs D w->zk 35 #[R H 0] w fun x E=>x=.returned (.bool true)∧TV A0 w0 fx vs rs aH E):=fun fx vs rs w T=>T.call (be:=fun x=>x=.returned (.bool true)) fun A l e=>hc A w l (e.trans hbe)
 clear hL hf hbe hc hV;go_enter Tryz.func27,Tryz.ntmps27;go_upto_region 12 with ((go_at_call 66;refine (Hl.out _).mono ?_;rintro e wB ⟨rfl,hb⟩;have T2:=zH (T1.out.below hb);obtain⟨p0,e0,e1,e2,e3,e4,e5,e6⟩:=qf.out _ _ _ _ T2.out;clear hb T1))
 have I1:=T2;go_upto_region 14 with ((go_at_call 35;refine (HC.out _ _ _ _ I1.out).mono ?_;rintro x w3 ⟨rfl,q3⟩;have T3:=zH q3;obtain⟨y0,z0⟩:=ay (T3.out.varOf (k:=w0.heap.size+1+1) (o:=(.cells #[I 0,I 0,I 0,I 0,I 0,.slice none 0 0,I 0,I 0] 83)) (by simp)) 0 rfl;obtain⟨y1,z1⟩:=ay (T3.out.varOf (k:=w0.heap.size+1+1) (o:=(.cells #[I 0,I 0,I 0,I 0,I 0,.slice none 0 0,I 0,I 0] 83)) (by simp)) 1 rfl;obtain⟨y2,z2⟩:=ay (T3.out.varOf (k:=w0.heap.size+1+1) (o:=(.cells #[I 0,I 0,I 0,I 0,I 0,.slice none 0 0,I 0,I 0] 83)) (by simp)) 2 rfl;clear q3 T2 I1))
 have T4:=zH (T3.out.set HV.out 2 (I 1));generalize hw4:World.setCell w3 ⟨w0.heap.size+1+1,2,none⟩ (I 1)=w4 at*;clear hw4;have T4:=zH ((by simpa only[List.setIfInBounds_toArray,List.set_cons_zero,List.set_cons_succ] using T4.out):TV A0 w0 [(w0.heap.size,(.cells #[I 4,I s,I lv,I ok,I oy,I oh,I ov] 71)),(pl,bC H)] [(w0.heap.size+1+1,(.cells #[I 0,I 0,I 1,I 0,I 0,.slice none 0 0,I 0,I 0] 83)),(w0.heap.size+1,(.cells #[I 0,I 0,I 0,I 0,I 0,.slice none 0 0,I 0,I 0] 83))] [] aH w4);have ho:=T4.out.varOf (k:=w0.heap.size+1+1) (o:=(.cells #[I 0,I 0,I 1,I 0,I 0,.slice none 0 0,I 0,I 0] 83)) (by simp);obtain⟨o0,_⟩:=ay ho 0 rfl;obtain⟨o1,_⟩:=ay ho 1 rfl;obtain⟨o2,_⟩:=ay ho 2 rfl;obtain⟨o3,_⟩:=ay ho 3 rfl;obtain⟨o4,_⟩:=ay ho 4 rfl;obtain⟨o5,_⟩:=ay ho 5 rfl;obtain⟨o6,_⟩:=ay ho 6 rfl;obtain⟨o7,_⟩:=ay ho 7 rfl;have tJ:=zH (gM (T4.out.varOf (k:=w0.heap.size+1) (o:=(.cells #[I 0,I 0,I 0,I 0,I 0,.slice none 0 0,I 0,I 0] 83)) (by simp)));clear ho;go_wp2_with ((refine wpList_store_mid rfl 83 (.tmp 4) (.tmp 63) rfl (w0.heap.size+1) 0 #[I 0,I 0,I 1,I 0,I 0,.slice none 0 0,I 0,I 0] rfl rfl tJ.out (by kernel_rfl) (by simp[Value.oneCell']) ?_;generalize hws:World.setCells _ _ _ _=ws));obtain⟨hfin,hpl⟩:=oV (T4.out.none) (by simp) hws;refine bodyPost_ret (results_cell_row rfl _ _ (w0.heap.size+1) 83 #[I 0,I 0,I 1,I 0,I 0,.slice none 0 0,I 0,I 0] _ _ rfl hfin Tryz.underlying83 rfl (by kernel_rfl)) rfl ?_;exact hpl
theorem Cr {A0:au} {D aH:St} {w0:World} {pl H:Nat} (s lv ok oy oh ov:Int) (hV:bR.V ⟨4,s,lv,ok,oy,oh,ov⟩) (hbe:A0.H=H) (hL:Live A0 D w0) (hf:Fix A0.L w0 pl (bC H))
 (hc:∀ A w,Live A D w->A.H=H->zk 35 #[R H 0] w fun x E=>x=.returned (.bool false)∧Gone A w aH E):
 zk 27 #[R pl 0,.agg #[I 4,I s,I lv,I ok,I oy,I oh,I ov]] w0 (vP A0 w0 aH 0 0 0 0 0 0 0 []):=by
 have Hl:=zH (fun w=>bR.MZ _ hV w);have qf:=fun bB vs rs E (T:TV A0 w0 [(w0.heap.size,(.cells #[I 4,I s,I lv,I ok,I oy,I oh,I ov] 71)),(pl,bC H)] vs rs bB E)=>LV (ay (T.rF (k:=pl) (o:=bC H) (by simp)) 0 rfl).1 (T.rF (k:=w0.heap.size) (o:=(.cells #[I 4,I s,I lv,I ok,I oy,I oh,I ov] 71)) (by simp))
 replace qf:=zH qf;have HV:Hid (∀ p:Obj,(w0.heap.size+1+1,p) ∉ [(w0.heap.size+1,(.cells #[I 0,I 0,I 0,I 0,I 0,.slice none 0 0,I 0,I 0] 83))]):=fun p hm=>by simp at hm
 have T1:Hid (TV A0 w0 [(w0.heap.size,(.cells #[I 4,I s,I lv,I ok,I oy,I oh,I ov] 71)),(pl,bC H)] [(w0.heap.size+1+1,(.cells #[I 0,I 0,I 0,I 0,I 0,.slice none 0 0,I 0,I 0] 83)),(w0.heap.size+1,(.cells #[I 0,I 0,I 0,I 0,I 0,.slice none 0 0,I 0,I 0] 83))] [] D (((w0.alloc (.cells #[I 4,I s,I lv,I ok,I oy,I oh,I ov] 71)).alloc (.cells #[I 0,I 0,I 0,I 0,I 0,.slice none 0 0,I 0,I 0] 83)).alloc (.cells #[I 0,I 0,I 0,I 0,I 0,.slice none 0 0,I 0,I 0] 83))):=by
  have h:=(((TV.start hL hf).alloc (.cells #[I 4,I s,I lv,I ok,I oy,I oh,I ov] 71)).var (.cells #[I 0,I 0,I 0,I 0,I 0,.slice none 0 0,I 0,I 0] 83)).var (.cells #[I 0,I 0,I 0,I 0,I 0,.slice none 0 0,I 0,I 0] 83);simp only[size_alloc] at h;exact h
 have HC:Hid (∀ fx vs rs w,TV A0 w0 fx vs rs D w->zk 35 #[R H 0] w fun x E=>x=.returned (.bool false)∧TV A0 w0 fx vs rs aH E):=fun fx vs rs w T=>T.call (be:=fun x=>x=.returned (.bool false)) fun A l e=>hc A w l (e.trans hbe)
 clear hL hf hbe hc hV;go_enter Tryz.func27,Tryz.ntmps27;go_upto_region 12 with ((go_at_call 66;refine (Hl.out _).mono ?_;rintro e wB ⟨rfl,hb⟩;have T2:=zH (T1.out.below hb);obtain⟨p0,e0,e1,e2,e3,e4,e5,e6⟩:=qf.out _ _ _ _ T2.out;clear hb T1))
 have I1:=T2;go_upto_region 14 with ((go_at_call 35;refine (HC.out _ _ _ _ I1.out).mono ?_;rintro x w3 ⟨rfl,q3⟩;have T3:=zH q3;obtain⟨y0,z0⟩:=ay (T3.out.varOf (k:=w0.heap.size+1+1) (o:=(.cells #[I 0,I 0,I 0,I 0,I 0,.slice none 0 0,I 0,I 0] 83)) (by simp)) 0 rfl;obtain⟨y1,z1⟩:=ay (T3.out.varOf (k:=w0.heap.size+1+1) (o:=(.cells #[I 0,I 0,I 0,I 0,I 0,.slice none 0 0,I 0,I 0] 83)) (by simp)) 1 rfl;obtain⟨y2,z2⟩:=ay (T3.out.varOf (k:=w0.heap.size+1+1) (o:=(.cells #[I 0,I 0,I 0,I 0,I 0,.slice none 0 0,I 0,I 0] 83)) (by simp)) 2 rfl;clear q3 T2 I1))
 have T4:=T3;generalize w3=w4 at*;have ho:=T4.out.varOf (k:=w0.heap.size+1+1) (o:=(.cells #[I 0,I 0,I 0,I 0,I 0,.slice none 0 0,I 0,I 0] 83)) (by simp);obtain⟨o0,_⟩:=ay ho 0 rfl;obtain⟨o1,_⟩:=ay ho 1 rfl;obtain⟨o2,_⟩:=ay ho 2 rfl;obtain⟨o3,_⟩:=ay ho 3 rfl;obtain⟨o4,_⟩:=ay ho 4 rfl;obtain⟨o5,_⟩:=ay ho 5 rfl;obtain⟨o6,_⟩:=ay ho 6 rfl;obtain⟨o7,_⟩:=ay ho 7 rfl;have tJ:=zH (gM (T4.out.varOf (k:=w0.heap.size+1) (o:=(.cells #[I 0,I 0,I 0,I 0,I 0,.slice none 0 0,I 0,I 0] 83)) (by simp)));clear ho;go_wp2_with ((refine wpList_store_mid rfl 83 (.tmp 4) (.tmp 63) rfl (w0.heap.size+1) 0 #[I 0,I 0,I 0,I 0,I 0,.slice none 0 0,I 0,I 0] rfl rfl tJ.out (by kernel_rfl) (by simp[Value.oneCell']) ?_;generalize hws:World.setCells _ _ _ _=ws));obtain⟨hfin,hpl⟩:=oV (T4.out.none) (by simp) hws;refine bodyPost_ret (results_cell_row rfl _ _ (w0.heap.size+1) 83 #[I 0,I 0,I 0,I 0,I 0,.slice none 0 0,I 0,I 0] _ _ rfl hfin Tryz.underlying83 rfl (by kernel_rfl)) rfl ?_;exact hpl
theorem Hm {A0:au} {D aH:St} {w0:World} {pl H:Nat} (s lv ok oy oh ov:Int) (hV:bR.V ⟨3,s,lv,ok,oy,oh,ov⟩) (hbe:A0.H=H) (hL:Live A0 D w0) (hf:Fix A0.L w0 pl (bC H)) {er kd re rv rn ro:Int} {ps:List (Nat×Nat)}
 (hc:∀ A w,Live A D w->A.H=H->zk 34 #[R H 0,I s] w fun x E=>∃ A' vp,x=.returned (.tuple #[.agg #[I kd,I re,I rv,vp,I rn,I ro],I er])∧dS A'.L E 2 vp (bJ ps)∧Live A' aH E∧Grow A.L w A'.L E∧A'.H=A.H):
 zk 27 #[R pl 0,.agg #[I 3,I s,I lv,I ok,I oy,I oh,I ov]] w0 (vP A0 w0 aH er 0 kd re rv rn ro ps):=by
 have Hl:=zH (fun w=>bR.MZ _ hV w);have qf:=fun bB vs rs E (T:TV A0 w0 [(w0.heap.size,(.cells #[I 3,I s,I lv,I ok,I oy,I oh,I ov] 71)),(pl,bC H)] vs rs bB E)=>LV (ay (T.rF (k:=pl) (o:=bC H) (by simp)) 0 rfl).1 (T.rF (k:=w0.heap.size) (o:=(.cells #[I 3,I s,I lv,I ok,I oy,I oh,I ov] 71)) (by simp))
 replace qf:=zH qf;have HV:Hid (∀ p:Obj,(w0.heap.size+1+1,p) ∉ [(w0.heap.size+1,(.cells #[I 0,I 0,I 0,I 0,I 0,.slice none 0 0,I 0,I 0] 83))]):=fun p hm=>by simp at hm
 have T1:Hid (TV A0 w0 [(w0.heap.size,(.cells #[I 3,I s,I lv,I ok,I oy,I oh,I ov] 71)),(pl,bC H)] [(w0.heap.size+1+1,(.cells #[I 0,I 0,I 0,I 0,I 0,.slice none 0 0,I 0,I 0] 83)),(w0.heap.size+1,(.cells #[I 0,I 0,I 0,I 0,I 0,.slice none 0 0,I 0,I 0] 83))] [] D (((w0.alloc (.cells #[I 3,I s,I lv,I ok,I oy,I oh,I ov] 71)).alloc (.cells #[I 0,I 0,I 0,I 0,I 0,.slice none 0 0,I 0,I 0] 83)).alloc (.cells #[I 0,I 0,I 0,I 0,I 0,.slice none 0 0,I 0,I 0] 83))):=by
  have h:=(((TV.start hL hf).alloc (.cells #[I 3,I s,I lv,I ok,I oy,I oh,I ov] 71)).var (.cells #[I 0,I 0,I 0,I 0,I 0,.slice none 0 0,I 0,I 0] 83)).var (.cells #[I 0,I 0,I 0,I 0,I 0,.slice none 0 0,I 0,I 0] 83);simp only[size_alloc] at h;exact h
 have HC:Hid (∀ fx vs rs w,TV A0 w0 fx vs rs D w->zk 34 #[R H 0,I s] w fun x E=>∃ vp,x=.returned (.tuple #[.agg #[I kd,I re,I rv,vp,I rn,I ro],I er])∧TV A0 w0 fx vs ((vp,bJ ps)::rs) aH E):=fun fx vs rs w T=>T.Pj (be:=fun x vp=>x=.returned (.tuple #[.agg #[I kd,I re,I rv,vp,I rn,I ro],I er])) fun A l e=>hc A w l (e.trans hbe)
 clear hL hf hbe hc hV;go_enter Tryz.func27,Tryz.ntmps27;go_upto_region 10 with ((go_at_call 66;refine (Hl.out _).mono ?_;rintro e wB ⟨rfl,hb⟩;have T2:=zH (T1.out.below hb);obtain⟨p0,e0,e1,e2,e3,e4,e5,e6⟩:=qf.out _ _ _ _ T2.out;clear hb T1))
 have I1:=zH (T2.out.below (Below.refl _ _).drew);refine wp_region_held_drew (S:=fun E=>zS E pl 0 H 0∧zT E w0.heap.size 0 3∧zT E w0.heap.size 1 s∧zT E w0.heap.size 2 lv∧zT E w0.heap.size 3 ok∧zT E w0.heap.size 4 oy∧zT E w0.heap.size 5 oh∧zT E w0.heap.size 6 ov) (by kernel_rfl) ?_ (fun bD=>?_)
 . (try dsimp only);exact⟨p0,e0,e1,e2,e3,e4,e5,e6⟩
 clear p0 e0 e1 e2 e3 e4 e5 e6;generalize wB.drew=vd at*;refine pY (i:=0) rfl bD ?_
 (try simp only[lF,lG,lH,Act.put,lJ,lK,lL])
 refine pY (i:=1) rfl bD ?_
 (try simp only[lF,lG,lH,Act.put,lJ,lK,lL])
 refine pY (i:=2) rfl bD ?_
 (try simp only[lF,lG,lH,Act.put,lJ,lK,lL])
 refine pY (i:=3) rfl bD ?_
 (try simp only[lF,lG,lH,Act.put,lJ,lK,lL])
 refine pY (i:=4) rfl bD ?_
 (try simp only[lF,lG,lH,Act.put,lJ,lK,lL])
 refine pY (i:=5) rfl bD ?_
 (try simp only[lF,lG,lH,Act.put,lJ,lK,lL])
 refine wpAnyH_ready (rs:=[6]) (by kernel_rfl) (by simp) ?_;refine AllReadyH.cons (o:=_) rfl (fun K hK=>?_) (AllReadyH.nil);go_simp
 (go_at_call 34;refine (HC.out _ _ _ _ I1.out).mono ?_;rintro x w3 ⟨vp,rfl,q3⟩;have T3:=zH q3;obtain⟨y0,z0⟩:=ay (T3.out.varOf (k:=w0.heap.size+1+1) (o:=(.cells #[I 0,I 0,I 0,I 0,I 0,.slice none 0 0,I 0,I 0] 83)) (by simp)) 0 rfl;obtain⟨y1,z1⟩:=ay (T3.out.varOf (k:=w0.heap.size+1+1) (o:=(.cells #[I 0,I 0,I 0,I 0,I 0,.slice none 0 0,I 0,I 0] 83)) (by simp)) 1 rfl;obtain⟨y2,z2⟩:=ay (T3.out.varOf (k:=w0.heap.size+1+1) (o:=(.cells #[I 0,I 0,I 0,I 0,I 0,.slice none 0 0,I 0,I 0] 83)) (by simp)) 2 rfl;obtain⟨va,vn,vc,rfl⟩:=T3.out.rowOf nK;have Ur:=zH (Kh (T3.out.varOf (k:=w0.heap.size+1+1) (o:=(.cells #[I 0,I 0,I 0,I 0,I 0,.slice none 0 0,I 0,I 0] 83)) (by simp)));clear q3 I1)
 refine hK.out _ _ ?_ (fun bD=>?_)
 . (try dsimp only);exact qf.out _ _ _ _ T3.out
 clear hK K
 (try simp only[lF,lG,lH,Act.put,lJ,lK,lL])
 refine pY (i:=7) rfl bD ?_
 (try simp only[lF,lG,lH,Act.put,lJ,lK,lL])
 refine pY (i:=8) rfl bD ?_
 (try simp only[lF,lG,lH,Act.put,lJ,lK,lL])
 refine pY (i:=9) rfl bD ?_
 (try simp only[lF,lG,lH,Act.put,lJ,lK,lL])
 refine pY (i:=10) rfl bD ?_
 (try simp only[lF,lG,lH,Act.put,lJ,lK,lL])
 refine wpAnyH_ready (rs:=[11]) (by kernel_rfl) (by simp) ?_;refine AllReadyH.cons (o:=_) rfl (fun K hK=>?_) (AllReadyH.nil);rw[aV (by rfl)];refine wp_store_mid 81 (.tmp 52) (.tmp 50) rfl (w0.heap.size+1+1) 2 #[I kd,I re,I rv,.slice va vn vc,I rn,I ro] rfl rfl (Ur.out 2 6 (by simp)) (by kernel_rfl) (by simp[Value.oneCell']) ?_;have VF:=zH (T3.out.mid HV.out (I kd) (I re) (I rv) (.slice va vn vc) (I rn) (I ro));generalize World.setCells _ _ _ _=w3a at*;clear y0 z0 y1 z1 y2 z2 Ur;obtain⟨y0,z0⟩:=ay (VF.out.varOf (k:=w0.heap.size+1+1) (o:=(.cells #[I 0,I 0,I kd,I re,I rv,.slice va vn vc,I rn,I ro] 83)) (by simp)) 0 rfl;refine hK.out _ _ ?_ (fun bD=>?_)
 . (try dsimp only);exact qf.out _ _ _ _ VF.out
 clear hK K
 (try simp only[lF,lG,lH,Act.put,lJ,lK,lL])
 refine wpAnyH_ready (rs:=[12]) (by kernel_rfl) (by simp) ?_;refine AllReadyH.cons (o:=_) rfl (fun K hK=>?_) (AllReadyH.nil);go_simp;refine hK.out _ _ ?_ (fun bD=>?_)
 . (try dsimp only);exact qf.out _ _ _ _ VF.out
 clear hK K
 (try simp only[lF,lG,lH,Act.put,lJ,lK,lL])
 refine wpAnyH_ready (rs:=[13]) (by kernel_rfl) (by simp) ?_;refine AllReadyH.cons (o:=_) rfl (fun K hK=>?_) (AllReadyH.nil);go_simp;have T4:=zH (VF.out.set HV.out 0 (I er));generalize World.setCell _ _ _=w4 at*;refine hK.out _ _ ?_ (fun bD=>?_)
 . (try dsimp only);exact qf.out _ _ _ _ T4.out
 clear hK K
 (try simp only[lF,lG,lH,Act.put,lJ,lK,lL])
 refine wpAnyH_done (by kernel_rfl) ?_ _;clear bD;have T4:=zH ((by simpa only[List.setIfInBounds_toArray,List.set_cons_zero,List.set_cons_succ] using T4.out):TV A0 w0 [(w0.heap.size,(.cells #[I 3,I s,I lv,I ok,I oy,I oh,I ov] 71)),(pl,bC H)] [(w0.heap.size+1+1,(.cells #[I er,I 0,I kd,I re,I rv,.slice va vn vc,I rn,I ro] 83)),(w0.heap.size+1,(.cells #[I 0,I 0,I 0,I 0,I 0,.slice none 0 0,I 0,I 0] 83))] [(.slice va vn vc,bJ ps)] aH w4);have ho:=T4.out.varOf (k:=w0.heap.size+1+1) (o:=(.cells #[I er,I 0,I kd,I re,I rv,.slice va vn vc,I rn,I ro] 83)) (by simp);obtain⟨o0,_⟩:=ay ho 0 rfl;obtain⟨o1,_⟩:=ay ho 1 rfl;obtain⟨o2,_⟩:=ay ho 2 rfl;obtain⟨o3,_⟩:=ay ho 3 rfl;obtain⟨o4,_⟩:=ay ho 4 rfl;obtain⟨o5,_⟩:=ay ho 5 rfl;obtain⟨o6,_⟩:=ay ho 6 rfl;obtain⟨o7,_⟩:=ay ho 7 rfl;have tJ:=zH (gM (T4.out.varOf (k:=w0.heap.size+1) (o:=(.cells #[I 0,I 0,I 0,I 0,I 0,.slice none 0 0,I 0,I 0] 83)) (by simp)));clear ho;go_wp2_with ((refine wpList_store_mid rfl 83 (.tmp 4) (.tmp 63) rfl (w0.heap.size+1) 0 #[I er,I 0,I kd,I re,I rv,.slice va vn vc,I rn,I ro] rfl rfl tJ.out (by kernel_rfl) (by simp[Value.oneCell']) ?_;generalize hws:World.setCells _ _ _ _=ws));obtain⟨hfin,hpl⟩:=oV (T4.out) (by simp) hws;refine bodyPost_ret (results_cell_row rfl _ _ (w0.heap.size+1) 83 #[I er,I 0,I kd,I re,I rv,.slice va vn vc,I rn,I ro] _ _ rfl hfin Tryz.underlying83 rfl (by kernel_rfl)) rfl ?_;exact hpl
section
variable {H ce:Nat} {w0 w E:World} {ks:List Kept} {vs:List (Nat×Obj)} {D τ:St}
theorem E2.aT (h:E2 H ce w0 ks vs D τ w) (h1:D.aT.length<100000) (h2:∀ e∈D.aT,e.res.aO.length<=64):
 zk 15 #[R H 0] w fun e E=>∃ v cs,e=.returned v∧Ow.Row E 0 12 v cs∧yT E D.aT cs∧Below w.heap.size w E:=by
 obtain⟨A,B,rfl,e2,t,g1,g2,k1,k2⟩:=h.ex;refine (ES t.a.rep h1 (fun e he=>gy (h2 e he) (by decide))).mono ?_;rintro e E ⟨v,cs,rfl,ho,hv,hb⟩;exact⟨v,cs,rfl,yO (tQ ho),hv.Xx,hb⟩
theorem uw {L:dE} {w:World} {k:Nat} {o:Obj}:∀ {ks:List Kept},kz L w ks->Kept.obj k o∈ks->Fix L w k o
 |[],_,h=>by cases h
 |x::ks,t,h=>by
  rcases List.mem_cons.1 h with rfl|h
  . exact t.1
  . exact uw t.2 h
end
def XA (H pl:Nat) (D aH:St) (e:bR.En) (er id kd re rv rn ro:Int) (ps:List (Nat×Nat)):Prop:=∀ A w,A.H=H->Live A D w->Fix A.L w pl (bC H)->zk 27 #[R pl 0,bR.lN e] w (vP A w aH er id kd re rv rn ro ps)
theorem E2.entry {H ce pl pn:Nat} {w0 w:World} {ks:List Kept} {vs:List (Nat×Obj)} {D aH τ:St} {e:bR.En} {er id kd re rv rn ro:Int} {ps:List (Nat×Nat)} (hE:XA H pl D aH e er id kd re rv rn ro ps) (hpn:pn=ps.length) (h:E2 H ce w0 ks vs D τ w) (hp:.obj pl (bC H)∈ks):
 zk 27 #[R pl 0,bR.lN e] w fun x E=>∃ va vc,x=.returned (.agg #[I er,I id,I kd,I re,I rv,.slice va pn vc,I rn,I ro])∧E2 H ce w0 (.row 2 (.slice va pn vc) (bJ ps)::ks) vs aH τ E:=by
 subst hpn;refine (h.LU (be:=fun x vp=>x=.returned (.agg #[I er,I id,I kd,I re,I rv,vp,I rn,I ro])) (bB:=aH) (size:=2) (xs:=bJ ps) fun A l eb k=>(hE A w eb l (uw k hp)).mono ?_).mono ?_
 . rintro x E ⟨A',vp,h1,h2,h3,h4,h5⟩
   exact⟨A',vp,h1,h2,h3,h4,h5⟩
 . rintro x E ⟨vp,rfl,q⟩
   obtain⟨a,n,c,rfl,hn,hc,hm,h5⟩:=q.rowOf (nK);rw[jZ] at hn;obtain rfl:n=ps.length:=by omega
   exact⟨a,c,rfl,q⟩
theorem U9 (e:bR.En) (h:bR.V e) (w:World):zk 23 #[bR.lN e] w fun z E=>z=.returned (.bool true)∧Below w.heap.size w E:=by
 obtain⟨b,hb,hc⟩:=bR.IY e w
 rwa [hb.2 h] at hc
theorem Sn (e:bR.En) (h:¬ bR.V e) (w:World):zk 23 #[bR.lN e] w fun z E=>z=.returned (.bool false)∧Below w.heap.size w E:=by
 obtain⟨b,hb,hc⟩:=bR.IY e w
 cases b with
 |true=>exact absurd (hb.1 rfl) h
 |false=>exact hc
theorem uy {w:World} {v:Value} {l:List bR.En} {base:Nat} (h:Ow.Row w base 7 v (bR.gZ l)):∃ a cap,v=.slice a l.length cap∧∀ i e,l[i]? =some e->∃ g off,a=za g off∧∀ f u,f<7->(bR.cellsE e)[f]? =some u->w.cell? (J g (off+(i*7+f)))=some u:=by
 obtain⟨a,n,cap,rfl,hn,hc,hm,h5⟩:=h;rw[bR.tO] at hn;obtain rfl:n=l.length:=by omega
 refine⟨a,cap,rfl,fun i e hi=>?_⟩;have hl:i<l.length:=(List.getElem?_eq_some_iff.1 hi).1
 rcases h5 with h5|⟨g,off,rfl,_,hg,hcell⟩
 . omega
 . refine⟨g,off,rfl,fun f u hf hu=>?_⟩
   have:=bR.DJ hcell i hl e f hf;rw[this];have h6:l.getD i e=e:=by rw[mM,hi];rfl
   rw[h6];exact hu
def Va:Option (List Nat):=
 match jP (new 8 50) 0 1 with
 |some (aH,1)=>match j6 (List.range 8) (mF aH.live.length) 1000 aH 0 with
  |some (aD,_,true)=>if aD.aT.length<100000∧(∀ e∈aD.aT,e.res.aO.length<=64) then some (aD.aT.map (·.kind)) else none
  |_=>none
 |_=>none
theorem P5:Va=some [1,3,5]:=by decide +kernel
theorem Nj:∃ aH aD n,jP (new 8 50) 0 1=some (aH,1)∧j6 (List.range 8) (mF aH.live.length) 1000 aH 0=some (aD,n,true)∧aD.aT.length<100000∧(∀ e∈aD.aT,e.res.aO.length<=64)∧aD.aT.map (·.kind)=[1,3,5]:=by
 have h:=P5;unfold Va at h
 split at h
 . rename_i aH h1
   split at h
   . rename_i aD n h2
     split at h
     . rename_i h3
       exact⟨aH,aD,n,h1,h2,h3.1,h3.2,zj h⟩
     . cases h
   . cases h
 . cases h
theorem Sq:(Tryz.prog.info? 83).map (fun i=>(i.zero,i.size,i.bytes))=some (some (.agg #[I 0,I 0,I 0,I 0,I 0,.slice none 0 0,I 0,I 0]),8,80):=by kernel_rfl
theorem Sr (a:Option Addr) (n cap:Nat) (h:n<=cap) (hm:cap<=9223372036854775807) (w:World):
 zk 65 #[.slice a n cap] w fun e E=>e=.returned (.slice a n n)∧w=E:=by
 have h1:(n:Int)<=(cap:Int):=by omega
 go_enter Tryz.func65,Tryz.ntmps65;go_wp2;go_ret;exact⟨rfl,rfl⟩
theorem Su {w:World} {g:Nat} (h:w.heap[g]? =some (.cells #[.int .u8 0,.int .u8 0,.int .u8 1,.int .u8 0,.int .u8 0] 5)):bR.Bytes w (some (J g 0)) 5 5 [0,0,1,0,0]:=by
 refine⟨rfl,by omega,by omega,.inr ⟨g,0,rfl,fA h,fun i hi=>?_⟩⟩
 rcases i with _|_|_|_|_|i
 . exact⟨fC h 0 rfl,by decide,by decide⟩
 . exact⟨fC h 1 rfl,by decide,by decide⟩
 . exact⟨fC h 2 rfl,by decide,by decide⟩
 . exact⟨fC h 3 rfl,by decide,by decide⟩
 . exact⟨fC h 4 rfl,by decide,by decide⟩
 . omega
theorem XB:bR.dec 2000 [0,0,1,0,0]=[⟨1,0,1,0,0,0,0⟩]:=by
 show (if ([0,0,1,0,0]:List Int).length=0 then [] else bR.Nr [0,0,1,0,0]::bR.dec 1999 [])=_;rw[aR (by decide)];rfl
theorem Vb {H pl:Nat} {aH:St} (h1:jP (new 8 50) 0 1=some (aH,1)):XA H pl (new 8 50) aH ⟨1,0,1,0,0,0,0⟩ 0 1 0 0 0 0 0 []:=fun A w hb l f=>
 vY 0 1 0 0 0 0 ⟨by decide,by decide,.inl ⟨rfl,by decide,by decide,rfl,rfl,rfl,rfl⟩⟩ hb l f fun A' E l' e'=>by
  have h:=DW (s:=0) (by decide) h1 A' E l';rw[e'] at h;exact h.mono fun e w'' ⟨A2,h2,h3,h4,h5⟩=>⟨h2,A2,h3,h4,h5⟩
theorem Sv {w:World} {v:Value} {cs:List Value} {l:List Ev} (hl:l.map (·.kind)=[1,3,5]) (hr:Ow.Row w 0 12 v cs) (he:yT w l cs):∃ g off c,v=.slice (some (J g off)) 3 c∧zT w g off 1∧zT w g (off+12) 3∧zT w g (off+24) 5:=by
 rcases l with _|⟨e0,_|⟨e1,_|⟨e2,_|⟨e3,l⟩⟩⟩⟩
 . cases hl
 . simp at hl
 . simp at hl
 . simp only[List.map_cons,List.map_nil,List.cons.injEq,and_true] at hl
   obtain⟨k0,k1,k2⟩:=hl;obtain⟨a0,c0,ys,rfl,-,a1,c1,zs,rfl,-,a2,c2,us,rfl,-,hu⟩:=he;rw[show us=[] from hu] at hr;obtain⟨a,n,cap,rfl,hn,hc,hm,h5⟩:=hr;have hn3:n=3:=by
    simp only[jR,List.length_nil] at hn;have h12:∀ (e:Ev) (v:Value),(ng e v).length=12:=fun _ _=>rfl
    rw[h12,h12,h12] at hn;omega
   subst hn3;obtain⟨g,off,rfl,_,hg,hcell⟩:=h5.resolve_left (by omega);have q0:=hcell 0 (by omega);have q1:=hcell 12 (by omega);have q2:=hcell 24 (by omega);refine⟨g,off,cap,rfl,q0.trans ?_,q1.trans ?_,q2.trans ?_⟩
   . show some (Value.int .i64 (e0.kind:Int))=_
     rw[k0];rfl
   . show some (Value.int .i64 (e1.kind:Int))=_
     rw[k1];rfl
   . show some (Value.int .i64 (e2.kind:Int))=_
     rw[k2];rfl
 . simp at hl
theorem KN.app {L:dE} {w:World} {ks:List Kept} (h:KN L w ks):∀ {ls:List Kept},KN L w ls->KN L w (ls++ks)
 |[],_=>h
 |k::ls,⟨⟨h1,h2⟩,h3⟩=>by
  obtain⟨g1,g2⟩:=KN.app h (ls:=ls) ⟨h2,fun b o hm=>h3 b o (qg _ hm)⟩;refine⟨⟨h1,g1⟩,fun b o hm=>?_⟩
  rcases List.mem_cons.1 hm with e|hm
  . exact h3 b o (e ▸ nK)
  . exact g2 b o hm
theorem E2.Nk {H ce:Nat} {w0 w:World} {ks:List Kept} {vs:List (Nat×Obj)} {D τ:St} (h:E2 H ce w0 ks vs D τ w) {f:FuncId} {args:Array Value} {bB:St} {be:Ending->List Kept->Prop}
 (hc:∀ A,Live A D w->A.H=H->kz A.L w ks->zk f args w fun e E=>∃ A' ls,be e ls∧KN (mG w.heap.size A'.L) E ls∧Live A' bB E∧Grow A.L w A'.L E∧A'.H=A.H):
 zk f args w fun e E=>∃ ls,be e ls∧E2 H ce w0 (ls++ks) vs bB τ E:=by
 obtain⟨A,B,e1,e2,t,g1,g2,k1,k2⟩:=h.ex;refine (hc A t.a e1 k1.1).mono ?_;rintro e E ⟨A',ls,hR,hf,hL,g,eb⟩;have ho:=t.off hL g;have t':=t.left hL g;have sa:kE A.L w (mG w.heap.size A'.L) E:=⟨g.size,fun b hb e=>g.block b hb e,fun b hb e=>eF ((g.lab b hb).trans e)⟩
 have ga:=g1.trans g;have f2:KN (aside B.L w.heap.size A'.L) E ls:=KN.soft ⟨zr _,fun _ _ _=>rfl,fun b _ e=>t'.none e⟩ hf;refine⟨ls,hR,A'.lab (mG w.heap.size A'.L),B.lab (aside B.L w.heap.size A'.L),eb.trans e1,e2,t',⟨ga.os,ga.tape,ga.output,ga.size,ga.block,fun b hb=>eF (ga.lab b hb),fun b hb e=>(by cases e)⟩,⟨g.os.trans g2.os,g.tape.trans g2.tape,g.output.trans g2.output,gy g2.size g.size,fun b hb hn=>?_,fun b hb=>?_,fun b hb e=>(by cases e)⟩,KN.app (KN.soft sa k1) hf,KN.app (KN.soft ho.soft k2) f2⟩
 . have hb':b<w.heap.size:=sG hb g2.size
   have hn2:B.L b=none:=g2.lab b hb;exact (ho.same b hb' (by rw[hn2];simp)).trans (g2.block b hb rfl)
 . have hb':b<w.heap.size:=sG hb g2.size
   exact (iy hb').trans (g2.lab b hb)
structure Ho where
 er:Int
 id:Int
 kd:Int
 re:Int
 rv:Int
 rn:Int
 ro:Int
 ps:List (Nat×Nat)
 deriving Inhabited
def Ki (D aH:St) (e:bR.En) (a:Ho):Prop:=∀ H pl,XA H pl D aH e a.er a.id a.kd a.re a.rv a.rn a.ro a.ps
def Cs (a:Ho) (vp:Value):List Value:=[I a.er,I a.id,I a.kd,I a.re,I a.rv,vp,I a.rn,I a.ro]
def lD (L:dE) (w:World):List Ho->List Value->Prop
 |[],cs=>cs=[]
 |a::rs,cs=>∃ vp cs',cs=Cs a vp++cs'∧dS L w 2 vp (bJ a.ps)∧lD L w rs cs'
theorem lD.soft {L L':dE} {w E:World} (g:kE L w L' E):∀ {rs:List Ho} {cs:List Value},lD L w rs cs->lD L' E rs cs
 |[],_,h=>h
 |_::_,_,⟨vp,cs',h1,h2,h3⟩=>⟨vp,cs',h1,h2.soft g,h3.soft g⟩
theorem lD.snoc {L:dE} {w:World}:∀ {rs:List Ho} {cs:List Value} (_:lD L w rs cs) (r:Ho) (vp:Value) (_:dS L w 2 vp (bJ r.ps)),lD L w (rs++[r]) (cs++Cs r vp)
 |[],_,h,r,vp,f=>⟨vp,[],by rw[show _=_ from h];rfl,f,rfl⟩
 |_::_,_,⟨XC,cs',h1,h2,h3⟩,r,vp,f=>⟨XC,_,by rw[h1,List.append_assoc],h2,h3.snoc r vp f⟩
def P6 (rs:List Ho) (cs:List Value) (ls:List Kept):Prop:=cs.length=rs.length*8∧∀ n r,rs[n]? =some r->∃ vp,Kept.row 2 vp (bJ r.ps)∈ls∧∀ f u,(Cs r vp)[f]? =some u->cs[n*8+f]? =some u
theorem lD.kept {L:dE} {w:World}:∀ {rs:List Ho} {cs:List Value},lD L w rs cs->∃ ls,KN L w ls∧P6 rs cs ls
 |[],cs,h=>⟨[],KN.nil,by rw[show cs=[] from h];rfl,fun n r hr=>by cases hr⟩
 |r::rs,_,⟨vp,cs',rfl,h2,h3⟩=>by
  obtain⟨ls,h4,h5,h6⟩:=lD.kept h3;refine⟨.row 2 vp (bJ r.ps)::ls,KN.row h2 h4,by simp[h5,Cs];omega,fun n r' hr=>?_⟩
  cases n with
  |zero=>
   obtain rfl:=zj hr;refine⟨vp,nK,fun f u hu=>?_⟩;have hf:f<8:=(List.getElem?_eq_some_iff.1 hu).1;rw[Nat.zero_mul,Nat.zero_add,List.getElem?_append_left hf];exact hu
  |succ n=>
   obtain⟨XC,m1,m2⟩:=h6 n r' hr;refine⟨XC,qg _ m1,fun f u hu=>?_⟩;rw[Qx (by simp[Cs];omega),show (n+1)*8+f - (Cs r vp).length=n*8+f by simp[Cs];omega];exact m2 f u hu
section
variable {N L n:Nat} {D:St}
theorem EL.entry (h:EL N L n D) (hn:n<300000) (hmd:D.aB<2000) (e:bR.En) (hV:bR.V e):∃ (a:Ho) (aH:St),EL N L (n+3) aH∧aH.aB<=D.aB+1∧Ki D aH e a:=by
 obtain⟨ek,AX,mD,kT,lQ,mJ,mi⟩:=e;obtain⟨_,_,h1|h1|h1|h1⟩:=id hV
 . obtain⟨h1,-⟩:=h1
   replace h1:ek=1:=h1;subst h1;obtain⟨id,er,aH,hW1,hm1,hc⟩:=h.aJ hn hmd AX mD
   exact ⟨⟨er, id, 0, 0, 0, 0, 0, []⟩, aH, hW1, hm1, fun H pl A w hb l f => vY AX mD kT lQ mJ mi hV hb l f (fun A' E l' e' => by
     have h:=hc A' E l'
     rw[e'] at h
     exact h)⟩
 . obtain⟨h1,-⟩:=h1
   replace h1:ek=2:=h1;subst h1;obtain⟨er,aH,hW1,hm1,hc⟩:=h.mf hn AX kT lQ mJ mi
   exact ⟨⟨er, 0, 0, 0, 0, 0, 0, []⟩, aH, hW1, by omega, fun H pl A w hb l f => E5 AX mD kT lQ mJ mi hV hb l f (fun A' E l' e' => by
     have h:=hc A' E l'
     rw[e'] at h
     exact h)⟩
 . obtain⟨h1,-⟩:=h1
   replace h1:ek=3:=h1;subst h1;obtain⟨kd,re,rv,rn,ro,er,ps,aH,hW1,hm1,hc⟩:=h.step hn AX
   exact ⟨⟨er, 0, kd, re, rv, rn, ro, ps⟩, aH, hW1, by omega, fun H pl A w hb l f => Hm AX mD kT lQ mJ mi hV hb l f (fun A' E l' e' => by
     have h:=hc A' E l'
     rw[e'] at h
     refine h.mono ?_
     rintro x E ⟨B',vp,h1,h2,h3,h4,h5⟩
     exact⟨B',vp,h1,h2,h3,h4,by rw[h5,e']⟩)⟩
 . obtain⟨h1,-⟩:=h1
   replace h1:ek=4:=h1;subst h1;obtain⟨hW1,hm1,hc⟩:=h.cz hn
   cases hsb:D.cz.2 with
   |false=>
    rw[hsb] at hc
    exact ⟨⟨0, 0, 0, 0, 0, 0, 0, []⟩, D.cz.1, hW1, by omega, fun H pl A w hb l f => Cr AX mD kT lQ mJ mi hV hb l f (fun A' E l' e' => by
      have h:=hc A' E l'
      rw[e'] at h
      exact h)⟩
   |true=>
    rw[hsb] at hc
    exact ⟨⟨0, 0, 1, 0, 0, 0, 0, []⟩, D.cz.1, hW1, by omega, fun H pl A w hb l f => Cq AX mD kT lQ mJ mi hV hb l f (fun A' E l' e' => by
      have h:=hc A' E l'
      rw[e'] at h
      exact h)⟩
end
def Nl {α:Type} (x:α) (f:Nat->α):Nat->α
 |0=>x
 |k+1=>f k
theorem EL.steps {N L:Nat}:∀ (es:List bR.En) (n:Nat) (D:St),EL N L n D->(∀ e∈es,bR.V e)->n+3*es.length<300000->D.aB+es.length<=2000->
 ∃ (σs:Nat->St) (ans:Nat->Ho),σs 0=D∧EL N L (n+3*es.length) (σs es.length)∧∀ k e,es[k]? =some e->Ki (σs k) (σs (k+1)) e (ans k)
 |[],n,D,h,_,_,_=>⟨fun _=>D,fun _=>default,rfl,h,fun k e he=>by cases he⟩
 |e::es,n,D,h,hV,hn,hmd=>by
  rw[List.length_cons] at hn hmd;obtain⟨a,aH,h1,h2,h3⟩:=h.entry (by omega) (by omega) e (hV e nK);obtain⟨σs,ans,k1,k2,k3⟩:=EL.steps es (n+3) aH h1 (fun e he=>hV e (qg _ he)) (by omega) (by omega);refine⟨Nl D σs,Nl a ans,rfl,?_,fun k x hx=>?_⟩
  . rw[List.length_cons,show n+3*(es.length+1)=n+3+3*es.length by omega];exact k2
  . cases k with
    |zero=>obtain rfl:=zj hx;show Ki D (σs 0) _ a;rw[k1];exact h3
    |succ k=>exact k3 k x hx
def Sw (A:au) (w:World) (bB:St) (rs:List Ho):Ending->World->Prop:=fun e E=>∃ A' vo cs,e=.returned vo∧UA A'.L E 8 vo cs∧lD A'.L E rs cs∧Live A' bB E∧Grow A.L w A'.L E∧A'.H=A.H∧∀ b,vo.ownBlock=some b->w.heap.size<=b
theorem yQ {A:au} {σs:Nat->St} {ans:Nat->Ho} {es:List bR.En} {H pl n:Nat} {w:World} (hbe:A.H=H) (hL:Live A (σs 0) w) (hf:Fix A.L w pl (bC H)) (hs:∀ k e,es[k]? =some e->Ki (σs k) (σs (k+1)) e (ans k)) (hn:n=es.length) (hn2:n<=2000) {ab:Option Addr} {len cap:Nat} {bs:List Int} (hb:bR.Bytes w ab len cap bs) (hd:bR.dec 2000 bs=es):
 zk 25 #[R pl 0,.slice ab len cap] w (Sw A w (σs n) ((List.range n).map ans)):=by
 obtain⟨ii,hii,hz0,hz1,hz2⟩:=info_parts Sq;have HD:=zH (bR.FQ ab len cap bs w hb);rw[hd] at HD;have HS:=zH hs;have H0:=zH (zA hbe (zA hL (zA hf (zA hn hn2))));clear hs hb hL hf hd hbe hn hn2;go_enter Tryz.func25,Tryz.ntmps25;go_wp2_with fail;refine HD.out.mono ?_;rintro e Y ⟨v,rfl,hrow,hb⟩;obtain⟨a,cap2,rfl,-⟩:=uy hrow;rw[<-H0.out.2.2.2.1] at hrow ⊢;have HF:Hid (dS A.L Y 7 (.slice a n cap2) (bR.gZ es)):=by
  obtain⟨a',n',c',e1,e2,e3,e4,e5⟩:=hrow;simp only[Value.slice.injEq] at e1;obtain⟨rfl,rfl,rfl⟩:=e1;refine⟨a,n,cap2,rfl,e2,e3,e4,?_⟩
  rcases e5 with e5|⟨g,off,e6,e7,e8,e9⟩
  . exact .inl e5
  . exact .inr ⟨g,off,e6,H0.out.2.1.rep.mem.fresh g e7,e8,e9⟩
 have HB:=zH hb;clear hrow hb HD;go_wp2_with fail
 go_loopw [5,11] (fun z i wr=>∃ (k:Nat) (A':au) (cs:List Value),k<=n∧i=I k∧Live A' (σs k) wr∧Grow A.L w A'.L wr∧A'.H=H∧Fix A'.L wr pl (bC H)∧dS A'.L wr 7 (.slice a n cap2) (bR.gZ es)∧wr.ownsRow w.heap.size 83 8 z k cs∧lD A'.L wr ((List.range k).map ans) cs∧uQ A'.L z) (fun _ i _=>n - (intOf i).toNat)
 case atStart=>
  obtain⟨h1,h2,h3,h4,h5⟩:=H0.out;have g:=Grow.below (L:=A.L) HB.out;exact⟨0,A,[],zz _,rfl,h2.below HB.out,g,h1,h3.grow g,HF.out,⟨rfl,.inl ⟨rfl,rfl⟩⟩,rfl,fun b hb=>by cases hb⟩
 case round=>
  obtain⟨k,A',cs,Z,rfl,hL,gr,eb,hfx,hfr,aU,hres,qb⟩:=hrel;obtain⟨av,cp,rfl,hc1,hc2,_⟩:=Ow.bN aU;obtain⟨_,_,_,hn,hn2⟩:=H0.out
  by_cases hlt:k<n
  . obtain⟨e,he⟩:∃ e,es[k]? =some e:=⟨_,zx (by omega)⟩
    obtain⟨a',c',e1,hr⟩:=uy hfr.row;simp only[Value.slice.injEq] at e1;obtain⟨rfl,-,rfl⟩:=e1;obtain⟨g,off,rfl,hc⟩:=hr k e he;have XD:=Grow.alloc A'.L wr (.cells (bR.cellsE e).toArray 71);have HE:=zH (HS.out k e he H pl A' _ eb (hL.alloc (.cells (bR.cellsE e).toArray 71)) (hfx.grow XD))
    have H5 : Hid (∀ A5 w5 va vn vc, dS A5.L w5 2 (.slice va vn vc) (bJ (ans k).ps) -> Live A5 (σs (k + 1)) w5 -> Grow A'.L (wr.alloc (.cells (bR.cellsE e).toArray 71)) A5.L w5 -> A5.H = A'.H ->
        ∀ w6,w6=w5.alloc (.cells #[I (ans k).er,I (ans k).id,I (ans k).kd,I (ans k).re,I (ans k).rv,.slice va vn vc,I (ans k).rn,I (ans k).ro] 83)->Live A5 (σs (k+1)) w6∧Grow A.L w A5.L w6∧A5.H=H∧Fix A5.L w6 pl (bC H)∧dS A5.L w6 7 (.slice (some (J g off)) n cap2) (bR.gZ es)∧w6.ownsRow w.heap.size 83 8 (.slice av k cp) k cs∧lD A5.L w6 ((List.range (k+1)).map ans) (cs++[I (ans k).er,I (ans k).id,I (ans k).kd,I (ans k).re,I (ans k).rv,.slice va vn vc,I (ans k).rn,I (ans k).ro])∧uQ A5.L (.slice av k cp)):=by
     intro A5 w5 va vn vc p1 p2 p3 p4 w6 p8;have gb:=Grow.alloc A5.L w5 (.cells #[I (ans k).er,I (ans k).id,I (ans k).kd,I (ans k).re,I (ans k).rv,.slice va vn vc,I (ans k).rn,I (ans k).ro] 83);have gc:=(XD.trans p3).trans gb;have hbl:∀ b,(Value.slice av k cp).ownBlock=some b->b<wr.heap.size:=fun b hb=>(aU.lt b hb).2
     subst p8;refine⟨p2.alloc _,gr.trans gc,p4.trans eb,hfx.grow gc,hfr.grow gc,oC aU fun b hb=>gc.keep b (hbl b hb) (qb b hb),?_,fun b hb=>(gc.lab b (hbl b hb)).trans (qb b hb)⟩;rw[List.range_succ,List.map_append];exact (hres.soft gc.soft).snoc (ans k) _ (p1.grow gb)
    have HQ:=zH (zA hlt (zA hn2 (zA hc1 hc2)));have b1:(k:Int)<(n:Int):=by omega
    have b0:(0:Int)<=(k:Int):=by omega
    have n1:IntKind.i64.wrap ((k:Int)+1)=(k:Int)+1:=by rw[jG];omega
    obtain⟨r,hr0⟩:∃ r,ans k=r:=⟨_,rfl⟩
    rw[hr0] at HE H5;clear hr0;obtain⟨er,id,kd,re,rv,rn,ro,ps⟩:=r;simp only at HE H5;obtain⟨ek,AX,mD,kT,lQ,mJ,mi⟩:=e;have c0:=hc 0 (I ek) (by omega) rfl;have c1:=hc 1 (I AX) (by omega) rfl;have c2:=hc 2 (I mD) (by omega) rfl;have c3:=hc 3 (I kT) (by omega) rfl;have c4:=hc 4 (I lQ) (by omega) rfl;have c5:=hc 5 (I mJ) (by omega) rfl;have c6:=hc 6 (I mi) (by omega) rfl;simp only[Nat.add_zero,<-Nat.add_assoc] at c0 c1 c2 c3 c4 c5 c6;clear hr hc he hL gr eb hfx hfr aU hres qb Z hlt hn hn2 XD hc1 hc2;go_wp2_with fail;refine HE.out.mono ?_;rintro x w5 ⟨A5,vp,rfl,p1,p2,p3,p4⟩;obtain⟨va,vn,vc,rfl⟩:=uP p1;have HZ:=zH (H5.out A5 w5 va vn vc p1 p2 p3 p4 _ rfl);clear p1 p2 p3 p4 c0 c1 c2 c3 c4 c5 c6 H5 HE;go_wp2_with (at_builtin;refine Ow.eu _ rfl (.tmp 15) (.tmp 19) 77 rfl w.heap.size 83 ii _ 8 80 Tryz.underlying77 hii hz0 hz1 hz2 rfl (by decide) (.slice av k cp) k cs rfl HZ.out.2.2.2.2.2.1 (J w5.heap.size 0) 1 1 (by omega) [I er,I id,I kd,I re,I rv,.slice va vn vc,I rn,I ro] rfl rfl ?c1 ?c2 (by have:=HQ.out.1;have:=HQ.out.2.1;unfold maxLen;omega) (by have:=HQ.out.1;have:=HQ.out.2.1;omega) HZ.out.2.1.size ?_)
    case c1=>exact Ow.iw w5 [I er,I id,I kd,I re,I rv,.slice va vn vc,I rn,I ro] _ w5.heap.size rfl
    case c2=>intro u hu;simp at hu;rcases hu with rfl|rfl|rfl|rfl|rfl|rfl|rfl|rfl<;>rfl
    intro v' w8 q1 q2 q3;obtain⟨av8,cp8,rfl,hc3,hc4,_⟩:=Ow.bN q1;have HY:=zH (zA q1 (zA q2 q3));clear q1 q2 q3;go_wp2_with fail
    go_roundw
    case rel=>
     obtain⟨l1,l2,l3,l4,l5,l6,l7,l8⟩:=HZ.out;obtain⟨q1,q2,q3⟩:=HY.out;obtain⟨L',hrow,XE⟩:=Gg l1 l8 q1 q2 (by rw[size_alloc];exact q3);have gz:=l2.LH hrow (fun b hb=>(l6.lt b hb).1);have hlt:=HQ.out.1;exact⟨k+1,{A5 with L:=L'},_,by omega,rfl,l1.LH hrow,gz,l3,l4.soft hrow.soft,l5.soft hrow.soft,q1,l7.soft hrow.soft,XE⟩
    case measure=>have:=HQ.out.1;simp[intOf];omega
  . obtain rfl:k=n:=by omega
    have HC:=zH (fun w=>Sr av k cp hc1 hc2 w);have HQ:=zH (zA aU (zA qb (zA hres (zA hL (zA gr eb)))));have b1:((k:Int)<(k:Int))=False:=by simp
    clear aU qb hres hL gr eb hfr hfx hn hn2 hlt hc1 hc2 Z;go_wp2_with (go_at_call 65;refine (HC.out _).mono ?_;rintro x w2 ⟨rfl,rfl⟩);go_ret;obtain⟨aU,qb,hres,hL,gr,eb⟩:=HQ.out;exact⟨A',_,cs,rfl,JF aU qb,hres,hL,gr,eb.trans H0.out.1.symm,DX aU⟩
theorem I4 {N L:Nat} (s:Nat):(new N L).calls.getD s none=none:=by
 show (List.replicate 8 none).getD s none=none;rw[mM,List.getElem?_replicate]
 split<;>rfl
theorem Sy {H ce p1 p2:Nat} {w0 Y w2:World} (q:rE H w0 [.obj p1 (bC H)] (new 30 200) Y) (q2:rE ce Y [.obj p2 (bC ce)] (new 30 200) w2) (h2:Y.heap.size<=p2):E2 H ce w0 [.obj p1 (bC H),.obj p2 (bC ce)] [] (new 30 200) (new 30 200) w2:=by
 obtain⟨B,eb,lb,gb,⟨k1,k2⟩,-⟩:=q2.ex;refine RB q ⟨B.lab (fun b=>if b=p2 then some .tmp else B.L b),eb,lb.D9 rfl I4 rfl (fun b r e=>?_) (fun b hb=>?_),⟨gb.os,gb.tape,gb.output,gb.size,gb.block,fun b hb=>?_,fun b hb e=>(by cases e)⟩,?_,h2,k2⟩ rfl I4 rfl
 . show (if b=p2 then some bU.tmp else B.L b)=_
   rw[aR (by rintro rfl;rw[k1] at e;cases e)];exact e
 . show (if b=p2 then some bU.tmp else B.L b)=_
   have:=fA k2;rw[aR (by omega)];exact lb.rep.mem.fresh b hb
 . show (if b=p2 then some bU.tmp else B.L b)=_
   rw[aR (by omega)];exact gb.lab b hb
 . show (if p2=p2 then some bU.tmp else B.L p2)=_
   rw[aV rfl]
theorem E8 {A:au} {D aD:St} {H pl ae k:Nat} {w:World} (hbe:A.H=H) (hL:Live A D w) (hf:Fix A.L w pl (bC H)) (hr:j6 (List.range 8) (mF D.live.length) ae D 0=some (aD,k,true)):
 zk 28 #[R pl 0,.slice none 0 0] w fun e E=>e=.returned (.bool true)∧Gone A w aD E:=by
 subst hbe;have x0:=fC hf.2 0 rfl;have VG:Hid (zk 67 #[R A.H 0,.slice none 0 0] w fun e E=>e=.returned (.tuple #[I k,.bool true])∧Gone A w aD E):=
  Ph hL [] none 0 (dS.nil _ _ _) (by simp) ae aD k true (by rw[show roundOf []=List.range 8 from rfl];exact hr)
 clear hL hf hr;go_enter Tryz.func28,Tryz.ntmps28;go_wp2_with (go_at_call 67;refine VG.out.mono ?_;rintro e Y ⟨rfl,q⟩;have T1:=zH q;clear q);go_ret;exact⟨rfl,T1.out⟩
section
variable {H ce pl:Nat} {w0 w:World} {ks:List Kept} {vs:List (Nat×Obj)} {D aD τ:St}
theorem E2.fin (h:E2 H ce w0 ks vs D τ w) (hp:.obj pl (bC H)∈ks) {ae k:Nat} (hr:j6 (List.range 8) (mF D.live.length) ae D 0=some (aD,k,true)):
 zk 28 #[R pl 0,.slice none 0 0] w fun e E=>e=.returned (.bool true)∧E2 H ce w0 ks vs aD τ E:=by
 refine (h.Nk (f:=28) (args:=#[R pl 0,.slice none 0 0]) (bB:=aD) (be:=fun e ls=>e=.returned (.bool true)∧ls=[]) (fun A hL eb Z=>?_)).mono ?_
 . refine (E8 eb hL (uw Z hp) hr).mono ?_
   rintro e E ⟨rfl,A',q1,q2,q3⟩;exact⟨A',[],⟨rfl,rfl⟩,KN.nil,q1,q2,q3⟩
 . rintro e E ⟨ls,⟨rfl,rfl⟩,q⟩
   exact⟨rfl,q⟩
theorem E2.bytes {σs:Nat->St} {ans:Nat->Ho} {es:List bR.En} {n:Nat} (h:E2 H ce w0 ks vs (σs 0) τ w) (hp:.obj pl (bC H)∈ks) (hs:∀ k e,es[k]? =some e->Ki (σs k) (σs (k+1)) e (ans k)) (hn:n=es.length) (hn2:n<=2000) {ab:Option Addr} {len cap:Nat} {bs:List Int} (hb:bR.Bytes w ab len cap bs) (hd:bR.dec 2000 bs=es):
 zk 25 #[R pl 0,.slice ab len cap] w fun e E=>∃ vo cs ls,e=.returned vo∧P6 ((List.range n).map ans) cs ls∧E2 H ce w0 (.row 8 vo cs::ls++ks) vs (σs n) τ E:=by
 refine (h.Nk (f:=25) (args:=#[R pl 0,.slice ab len cap]) (bB:=σs n) (be:=fun e ls'=>∃ vo cs ls,e=.returned vo∧P6 ((List.range n).map ans) cs ls∧ls'=.row 8 vo cs::ls) (fun A hL eb Z=>?_)).mono ?_
 . refine (yQ eb hL (uw Z hp) hs hn hn2 hb hd).mono ?_
   rintro e E ⟨A',vo,cs,rfl,ht,hres,hL',g,XF,hge⟩;obtain⟨ls,k1,k2⟩:=(hres.soft (L':=mG w.heap.size A'.L) (E:=E) ⟨zr _,fun _ _ _=>rfl,fun b _ e=>eF e⟩).kept;refine⟨A',.row 8 vo cs::ls,⟨vo,cs,ls,rfl,k2,rfl⟩,KN.row ?_ k1,hL',g,XF⟩;obtain⟨a',n',cap',rfl,h2,h3,h4,h5⟩:=ht.1;refine⟨a',n',cap',rfl,h2,h3,h4,?_⟩
   rcases h5 with h5|⟨b,off,rfl,_,e3,e4⟩
   . exact .inl h5
   . refine .inr ⟨b,off,rfl,?_,e3,e4⟩
     have hb:=ht.2 b rfl;unfold mG;rw[aR (by have:=hge b rfl;omega),hb]
 . rintro e E ⟨ls',⟨vo,cs,ls,e1,e2,rfl⟩,h2⟩
   exact⟨vo,cs,ls,e1,e2,h2⟩
theorem E2.answer (h:E2 H ce w0 ks vs D τ w) {vo:Value} {cs:List Value} {rs:List Ho} {ls:List Kept} (hm:Kept.row 8 vo cs∈ks) (hr:P6 rs cs ls) (hl:∀ k∈ls,k∈ks):
 ∃ a cap,vo=.slice a rs.length cap∧∀ n r,rs[n]? =some r->∃ g off va vn vc,a=za g off∧vn=r.ps.length∧Ow.Row w 0 2 (.slice va vn vc) (bJ r.ps)∧∀ f u,(Cs r (.slice va vn vc))[f]? =some u->w.cell? (J g (off+(n*8+f)))=some u:=by
 obtain⟨a,m,cap,rfl,h2,h3,h4,h5⟩:=h.rowOf hm;have hlen:=hr.1;obtain rfl:m=rs.length:=by omega
 refine⟨a,cap,rfl,fun n r hn=>?_⟩;obtain⟨vp,m1,m2⟩:=hr.2 n r hn;have hnl:n<rs.length:=(List.getElem?_eq_some_iff.1 hn).1;have hrow:=h.rowOf (hl _ m1);obtain⟨va,vn,vc,rfl,Jo,_⟩:=id hrow;rw[jZ] at Jo
 rcases h5 with h5|⟨g,off,rfl,_,_,hc⟩
 . omega
 . refine⟨g,off,va,vn,vc,rfl,by omega,hrow,fun f u hu=>?_⟩
   have hf:f<8:=(List.getElem?_eq_some_iff.1 hu).1;rw[hc (n*8+f) (by omega)];exact m2 f u hu
end
theorem AY {N L:Nat} (i1:1<=N) (i2:N<=256) (i3:1<=L) (i4:L<=1099511627776) {σs:Nat->St} {ans:Nat->Ho} {es:List bR.En} {n ae k:Nat} {aD:St} {w:World} (h0:σs 0=new N L) (hs:∀ k e,es[k]? =some e->Ki (σs k) (σs (k+1)) e (ans k)) (hn:n=es.length) (hn2:n<=2000) (hr:j6 (List.range 8) (mF (σs n).live.length) ae (σs n) 0=some (aD,k,true)) (h3:aD.aT.length<100000) (h4:∀ e∈aD.aT,e.res.aO.length<=64) {ab:Option Addr} {len cap:Nat} {bs:List Int} (hb:bR.Bytes w ab len cap bs) (hd:bR.dec 2000 bs=es):
 zk 29 #[.agg #[I N,zu L],.slice ab len cap] w fun e E=>∃ v cs,e=.returned (.tuple #[v,I 0])∧Ow.Row E 0 12 v cs∧yT E aD.aT cs∧Below w.heap.size w E:=by
 obtain⟨wa,Kk⟩:∃ wa,wa=w.alloc (.cells #[I N,zu L] 66):=⟨_,rfl⟩
 have HB0:Hid (Below w.heap.size w wa):=by subst Kk;exact (Below.refl _ w).alloc (zr _) _
 have HS:Hid (zk 21 #[.agg #[I N,zu L]] wa fun e E=>∃ H pl,e=.returned (.tuple #[R pl 0,I 0])∧rE H wa [.obj pl (bC H)] (new N L) E):=M0 N L i1 i2 i3 i4 wa;have VH:Hid (∀ H pl Y,rE H wa [.obj pl (bC H)] (new N L) Y->zk 25 #[R pl 0,.slice ab len cap] Y fun e E=>(∃ v,e=.returned v)∧rE H wa [.obj pl (bC H)] (σs n) E):=fun H pl Y q=>by
  rw[<-h0] at q;obtain⟨A,eb,l,g,t⟩:=q.ex;refine (yQ eb l t.1 hs hn hn2 (hb.below (HB0.out.trans (q.toBelow.mono HB0.out.size))) hd).mono ?_;rintro e E ⟨A',vo,cs,rfl,ht,hres,hL',g',XF,hge⟩;exact⟨⟨_,rfl⟩,A',XF.trans eb,hL',g.trans g',kz.grow g' t⟩
 have Vk:Hid (∀ H pl Y,rE H wa [.obj pl (bC H)] (σs n) Y->zk 28 #[R pl 0,.slice none 0 0] Y fun e E=>e=.returned (.bool true)∧rE H wa [.obj pl (bC H)] aD E):=fun H pl Y q=>by
  obtain⟨A,eb,l,g,t⟩:=q.ex;refine (E8 eb l t.1 hr).mono ?_;rintro e E ⟨rfl,A',q1,q2,q3⟩;exact⟨rfl,A',q3.trans eb,q1,g.trans q2,kz.grow q2 t⟩
 have Q3:Hid (∀ H pl Y,rE H wa [.obj pl (bC H)] aD Y->zk 15 #[R H 0] Y fun e E=>∃ v cs,e=.returned v∧Ow.Row E 0 12 v cs∧yT E aD.aT cs∧Below Y.heap.size Y E):=fun H pl Y q=>by
  obtain⟨A,rfl,l,_,_⟩:=q.ex;refine (ES l.rep h3 (fun e he=>gy (h4 e he) (by decide))).mono ?_;rintro e E ⟨v,cs,rfl,ho,hv,hb⟩;exact⟨v,cs,rfl,yO (tQ ho),hv.Xx,hb⟩
 subst Kk;clear i1 i2 i3 i4 h0 hs hn hn2 hr h3 h4 hb hd;go_enter Tryz.func29,Tryz.ntmps29
 go_wp2_with (first
   |(go_at_call 21;refine HS.out.mono ?_;rintro e Y ⟨H,pl,rfl,q⟩;have T0:=zH q;clear q HS)
   |(go_at_call 25;refine (VH.out H pl _ T0.out).mono ?_;rintro e w2 ⟨⟨v,rfl⟩,q⟩;have T1:=zH q;clear q T0)
   |(go_at_call 28;refine (Vk.out H pl _ T1.out).mono ?_;rintro e w3 ⟨rfl,q⟩;have x0:=fC (q.obj nK) 0 rfl;have T2:=zH q;clear q T1)
   |(go_at_call 15;refine (Q3.out H pl _ T2.out).mono ?_;rintro e w4 ⟨vt,cs,rfl,r,ev,hb⟩;have T3:=zH (zA r (zA ev (T2.out.below hb).toBelow));clear r ev hb T2))
 exact bodyPost_ret (v:=.tuple #[vt,I 0]) (by simp[results,Tryz.results29,go_sem]) rfl ⟨vt,cs,rfl,T3.out.1,T3.out.2.1,oU T3.out.2.2⟩
theorem P7 {g:Nat} {w:World} (hg:w.heap[g]? =some (.cells #[.int .u8 0,.int .u8 0,.int .u8 1,.int .u8 0,.int .u8 0] 5)):
 zk 29 #[.agg #[I 8,zu 50],.slice (some (J g 0)) 5 5] w fun e E=>∃ l v cs,l.map (·.kind)=[1,3,5]∧e=.returned (.tuple #[v,I 0])∧Ow.Row E 0 12 v cs∧yT E l cs∧Below w.heap.size w E:=by
 obtain⟨aH,aD,n,h1,h2,h3,h4,h5⟩:=Nj
 exact (AY (N := 8) (L := 50) (by omega) (by omega) (by omega) (by omega) (σs := Nl (new 8 50) fun _ => aH) (ans := fun _ => ⟨0, 1, 0, 0, 0, 0, 0, []⟩) (n := 1) rfl (fun k e he => by
   cases k with
   |zero=>obtain rfl:=zj he;exact fun H pl=>Vb h1
   |succ k=>cases he) rfl (by omega) h2 h3 h4 (Su hg) XB).mono fun e E ⟨v,cs,a,b,c,d⟩=>⟨_,v,cs,h5,a,b,c,d⟩
theorem Nn (w:World):zk 31 #[] w fun e E=>e=.returned (.bool true)∧Below w.heap.size w E:=by
 have HP:=zH (P7 (g:=w.heap.size) (w:=w.alloc (.cells #[.int .u8 0,.int .u8 0,.int .u8 1,.int .u8 0,.int .u8 0] 5)) (heap_alloc_new w _));go_enter Tryz.func31,Tryz.ntmps31;go_wp2_with (go_at_call 29;refine HP.out.mono ?_;rintro e Y ⟨l,v,cs,hl,rfl,hr,he,hb⟩;obtain⟨g,off,c,rfl,q0,q1,q2⟩:=Sv hl hr he;have HB:=zH (oU hb);clear hl hr he hb);go_ret;exact⟨rfl,HB.out⟩
end Go.Proofs.YthicolbbmjfkfaaGreat.Em
namespace Go.Proofs.YthicolbbmjfkfaaGreat.Em.Cw
open En
end Go.Proofs.YthicolbbmjfkfaaGreat.Em.Cw
namespace Go.Proofs.YthicolbbmjfkfaaGreat.Em
open Go.ChangeShapes Go.WideShapes Go.ChangeAt Go.RowKit En
theorem E2.ownB {H ce:Nat} {w0 w E:World} {ks:List Kept} {vs:List (Nat×Obj)} {D τ:St} {size:Nat} {v:Value} {xs:List Value} (h:E2 H ce w0 ks vs D τ w) (hb:Below w.heap.size w E) (ho:Ow.Row E w.heap.size size v xs):E2 H ce w0 (.row size v xs::ks) vs D τ E:=by
 obtain⟨A,B,e1,e2,t,g1,g2,k1,k2⟩:=h.ex;refine E2.row ⟨A,B,⟨e1,e2,t.below hb,g1.trans (Grow.below hb),g2.trans (Grow.below hb),KN.grow (Grow.below hb) k1,KN.grow (Grow.below hb) k2⟩,?_⟩;obtain⟨a,n,c,rfl,h1,h2,h3,h4⟩:=ho;refine⟨a,n,c,rfl,h1,h2,h3,?_⟩
 rcases h4 with h4|⟨g',off,e1,e2,e3,e4⟩
 . exact .inl h4
 . exact .inr ⟨g',off,e1,t.a.rep.mem.fresh g' e2,e3,e4⟩
theorem Sz {w:World} {base size n cap g off:Nat} {xs:List Value} (h:Ow.Row w base size (.slice (some (J g off)) n cap) xs) {j:Nat} {u:Value} (hj:xs[j]? =some u):w.cell? (J g (off+j))=some u:=by
 obtain⟨a,n',c',e1,h2,h3,h4,h5⟩:=h;simp only[Value.slice.injEq] at e1;obtain⟨rfl,rfl,rfl⟩:=e1;have hlt:j<xs.length:=(List.getElem?_eq_some_iff.1 hj).1
 rcases h5 with h5|⟨g',off',e6,_,_,hc⟩
 . subst h5;omega
 . simp only[Option.some.injEq,Addr.mk.injEq] at e6
   obtain⟨rfl,rfl,-⟩:=e6;rw[hc j (by omega)];exact hj
set_option maxHeartbeats 16000000 in
theorem SA (vl:Value) (es:List Pk) (w:World) (hv:Ow.Row w 0 7 vl (qD es)) (hpk:∀ p∈es,Lt p):
 zk 5 #[vl] w fun e E=>e=.returned (.bool true)∧Below w.heap.size w E:=by
 obtain⟨a,aad,rfl,hmax,hrow⟩:=J9 hv;clear hv;obtain⟨n,hn⟩:∃ n,n=es.length:=⟨_,rfl⟩
 rw[<-hn] at hmax;rw[<-hn];obtain⟨cb,hcb⟩:∃ cb,cb=w.heap.size:=⟨_,rfl⟩
 obtain⟨wa,Kk⟩:∃ wa,wa=w.alloc (.cells #[I 30,zu 200] 66):=⟨_,rfl⟩
 have HB0:Hid (∀ E,Below wa.heap.size wa E->Below w.heap.size w E):=fun E hb=>by subst Kk;exact oU hb
 have XG:Hid (∀ E,Below wa.heap.size wa E->zT E cb 0 30∧zV E cb 1 200):=fun E hb=>by
  subst Kk hcb;have h:=MX hb;exact⟨fC h 0 rfl,fC h 1 rfl⟩
 have HS:Hid (∀ w,zk 21 #[.agg #[I 30,zu 200]] w fun e E=>∃ H pl,e=.returned (.tuple #[R pl 0,I 0])∧rE H w [.obj pl (bC H)] (new 30 200) E∧w.heap.size<=pl):=fun w=>IZ 30 200 (by omega) (by omega) (by omega) (by omega) w
 have HR:Hid (∀ i e,es[i]? =some e->∃ g off,a=za g off∧∀ E,Below wa.heap.size wa E->∀ f u,f<7->(ru e)[f]? =some u->E.cell? (J g (off+(i*7+f)))=some u):=fun i e hx=>by
  obtain⟨g,off,h1,h2⟩:=hrow i e hx;exact⟨g,off,h1,fun E hb=>h2 E (HB0.out E hb)⟩
 have SV:=zH hpk;have HL:=zH hn;obtain⟨z0,z1⟩:=XG.out wa (Below.refl _ _);subst Kk;rw[hcb] at z0 z1;have YH:=zH hcb;clear hrow hn hpk hcb;go_enter Tryz.func5,Tryz.ntmps5
 go_upto_region 6 with (first
   |(go_at_call 21;refine (HS.out _).mono ?_;rintro e Y ⟨H,pl,rfl,q,hp1⟩;obtain⟨z2,z3⟩:=XG.out Y q.toBelow;have T0:=zH q;clear q hp1 z0 z1;rw[YH.out] at z2 z3)
   |(go_at_call 21;refine (HS.out _).mono ?_;rintro e w2 ⟨ce,ql,rfl,q,hp2⟩;have T2:=zH (Sy T0.out q hp2);clear q hp2 T0 z2 z3))
 generalize w.alloc (.cells #[I 30,zu 200] 66)=wa at*;go_wp2_with fail;have HB2:Hid (Below wa.heap.size wa w2):=T2.out.toBelow
 go_loopw [8,9] (fun v i wr=>∃ (m:Nat) (gl:List bR.En),i=I m∧m<=200∧m<=n∧gl.length<=m∧(∀ e∈gl,bR.V e)∧(∀ e∈gl,bR.U6 e)∧wr.ownsRow w2.heap.size 71 7 v gl.length (bR.gZ gl)∧Below w2.heap.size w2 wr) (fun _ i _=>200 - (intOf i).toNat)
 case atStart=>exact⟨0,[],rfl,by omega,by omega,by simp,by simp,by simp,World.ownsRow_nil _ _ _ _,Below.refl _ _⟩
 case round=>
  obtain⟨m,gl,rfl,hm1,hm2,hgl,hgv,hgi,aU,hbel⟩:=hrel;obtain⟨a2,cap2,rfl,hn2,SB,_⟩:=Ow.bN aU;have n1:IntKind.i64.wrap ((m:Int)+1)=(m:Int)+1:=by rw[jG];omega
  by_cases hlt:m<200∧m<n
  . obtain⟨hl1,hl2⟩:=hlt
    obtain⟨e,he⟩:∃ e,es[m]? =some e:=⟨es[m]'(by rw[<-HL.out];exact hl2),zx _⟩
    obtain⟨g,off,rfl,hr⟩:=HR.out m e he;have hr2:=hr wr (HB2.out.trans (hbel.mono HB2.out.size));obtain⟨en,hen⟩:∃ en,en=M3 e:=⟨_,rfl⟩
    have HE:=zH (M9 e wr);rw[<-hen] at HE;have hI:bR.U6 en:=by rw[hen];exact M8 (SV.out e (List.mem_of_getElem? he))
    obtain⟨kd,s,l,k,F,hi,v⟩:=e;have c0:=hr2 0 (I kd) (by omega) rfl;have c1:=hr2 1 (I s) (by omega) rfl;have c2:=hr2 2 (I l) (by omega) rfl;have c3:=hr2 3 (I k) (by omega) rfl;have c4:=hr2 4 (I F) (by omega) rfl;have c5:=hr2 5 (I hi) (by omega) rfl;have c6:=hr2 6 (I v) (by omega) rfl;have i1:(0:Int)<=(m:Int):=by omega
    have i2:(m:Int)<(n:Int):=by omega
    have i3:(m:Int)<200:=by omega
    have HQ:=zH (zA hm1 (zA hm2 (zA hgl (zA hgv (zA hgi hI)))));obtain⟨gn,hgn⟩:∃ gn,gn=gl.length:=⟨_,rfl⟩
    rw[<-hgn] at aU hn2;rw[<-hgn];have HG:=zH hgn;have HM2:=zH SB;simp only[Nat.add_zero,<-Nat.add_assoc] at c0 c1 c2 c3 c4 c5 c6;clear hr hr2 he hen hm2 SB hgl hgv hgi hI hm1 hgn
    by_cases hV:bR.V en
    . have Hl:=zH (fun w=>U9 en hV w)
      have HV:=zH hV;clear hV;obtain⟨ek,AX,mD,kT,lQ,mJ,mi⟩:=en;go_wp2_with fail;refine HE.out.mono ?_;rintro x w5 ⟨rfl,hq⟩;have ku:=Ow.ni hbel hq;have hown1:=Ow.own_below aU hq;clear aU hbel hq c0 c1 c2 c3 c4 c5 c6 HE;go_wp2_with fail;refine (Hl.out _).mono ?_;rintro x w6 ⟨rfl,hq⟩;have hoe:=MX hq;have oL:=ku.trans ((oU hq).mono ku.size);have hown2:=Ow.own_below (hown1.alloc _) hq;have d0:=fC hoe 0 rfl;have d1:=fC hoe 1 rfl;have d2:=fC hoe 2 rfl;have d3:=fC hoe 3 rfl;have d4:=fC hoe 4 rfl;have d5:=fC hoe 5 rfl;have d6:=fC hoe 6 rfl;clear hown1 ku hq hoe Hl;go_wp2_with (at_builtin;refine bR.xy _ rfl (.tmp 59) (.tmp 61) rfl w2.heap.size (.slice a2 gn cap2) gn (bR.gZ gl) rfl (hown2.alloc _) (J w6.heap.size 0) 1 (bR.cellsE ⟨ek,AX,mD,kT,lQ,mJ,mi⟩) rfl rfl ?c1 (bR.uM _) (by have:=HQ.out.1;have:=HQ.out.2.2.1;have:=HG.out;omega) ?c5 ?_)
      case c1=>exact Ow.iw w6 (bR.cellsE ⟨ek,AX,mD,kT,lQ,mJ,mi⟩) _ w6.heap.size rfl
      case c5=>have:=oL.size;simp;omega
      intro v' w7 hown3 hg2;have Vd:Below w2.heap.size w2 w7:=Ow.nN (hown2.alloc _) (oL.alloc oL.size _) (by have:=oL.size;simp;omega) hg2;have hfl:bR.gZ (gl++[⟨ek,AX,mD,kT,lQ,mJ,mi⟩])=bR.gZ gl++bR.cellsE ⟨ek,AX,mD,kT,lQ,mJ,mi⟩:=bR.rW _ _;rw[<-hfl] at hown3;clear hg2 hown2 oL hfl d0 d1 d2 d3 d4 d5 d6;go_wp2_with fail
      go_roundw
      case rel=>
       obtain⟨x1,x2,x3,x4,x5,x6⟩:=HQ.out;refine⟨m+1,gl++[⟨ek,AX,mD,kT,lQ,mJ,mi⟩],rfl,by omega,by omega,by simp;omega,fun e he=>?_,fun e he=>?_,by rw[jR,<-HG.out];exact hown3,Vd⟩
       . rcases List.mem_append.1 he with he|he
         . exact x4 e he
         . obtain rfl:=List.mem_singleton.1 he;exact HV.out
       . rcases List.mem_append.1 he with he|he
         . exact x5 e he
         . obtain rfl:=List.mem_singleton.1 he;exact x6
      case measure=>simp[intOf];omega
    . have Hl:=zH (fun w=>Sn en hV w)
      clear hV;obtain⟨ek,AX,mD,kT,lQ,mJ,mi⟩:=en;go_wp2_with fail;refine HE.out.mono ?_;rintro x w5 ⟨rfl,hq⟩;have ku:=Ow.ni hbel hq;have hown1:=Ow.own_below aU hq;clear aU hbel hq c0 c1 c2 c3 c4 c5 c6 HE;go_wp2_with fail;refine (Hl.out _).mono ?_;rintro x w6 ⟨rfl,hq⟩;have oL:=ku.trans ((oU hq).mono ku.size);have hown2:=Ow.own_below (hown1.alloc _) hq;clear hown1 ku hq Hl;go_wp2_with fail
      go_roundw
      case rel=>
       obtain⟨x1,x2,x3,x4,x5,x6⟩:=HQ.out;exact⟨m+1,gl,rfl,by omega,by omega,by omega,x4,x5,by rw[<-HG.out];exact hown2,oL⟩
      case measure=>simp[intOf];omega
  . have HM:=zH (zA hm1 (zA hm2 (zA hgl (zA hgv hgi))))
    have Z:((m:Int)<(n:Int))=False∨((m:Int)<(n:Int))=True∧((m:Int)<200)=False:=by
     by_cases h:m<n
     . exact .inr ⟨by simp;omega,by simp;omega⟩
     . exact .inl (by simp;omega)
    obtain⟨gn,hgn⟩:∃ gn,gn=gl.length:=⟨_,rfl⟩
    rw[<-hgn] at aU hn2;rw[<-hgn];have hgn2:gn<=200:=by omega
    have T3:Hid (E2 H ce wa [.row 7 (.slice a2 gn cap2) (bR.gZ gl),.obj pl (bC H),.obj ql (bC ce)] [] (new 30 200) (new 30 200) wr):=T2.out.ownB hbel (tQ aU);obtain⟨σs,ans,h0,XH,hst⟩:=EL.steps (N:=30) (L:=200) gl 0 (new 30 200) (EL.new (by omega) (by omega)) hgv (by omega) (by show 0+gl.length<=2000;omega);rw[<-hgn] at XH;obtain⟨ae,aD,kk,hF,hend,ht1,ht2⟩:=XH.fin (by omega) (by omega)
    have VG := zH (bR.Hd (.slice a2 gn cap2) gl hgi (by omega) wr (by
      have h:=T3.out.rowOf nK
      exact h))
    have HST:=zH hst;have Ku:=zH (zA hgn (zA hgn2 hgv));have XI:=zH hend;have Nt:=zH (zA ht1 ht2);have HZ:=zH h0;have hgc:((gn:Int) !=(gn:Int))=false:=by simp
    clear hlt hm1 hm2 hgl hgv hgi aU hn2 SB hbel hgn hgn2 XH hst hend ht1 ht2 h0 T2 HB2 HR SV HL HM HS
    rcases Z with k1|⟨k1,k2⟩
    all_goals (
     go_wp2_with fail
     refine VG.out.mono ?_
     rintro x w4 ⟨hb4,hor⟩
     obtain⟨-,ab,nb,rfl,hbr⟩:=hor.resolve_right (fun h=>h.1 Ku.out.2.2)
     have T4:Hid (E2 H ce wa [.row 1 (.slice ab nb nb) (bR.wM (bR.fO gl)),.row 7 (.slice a2 gn cap2) (bR.gZ gl),.obj pl (bC H),.obj ql (bC ce)] [] (σs 0) (σs 0) w4):=by rw[HZ.out];exact T3.out.ownB hb4 hbr
     have YI:Hid (∀ ks D τ w,E2 H ce wa (ks++[.row 1 (.slice ab nb nb) (bR.wM (bR.fO gl)),.row 7 (.slice a2 gn cap2) (bR.gZ gl),.obj pl (bC H),.obj ql (bC ce)]) [] D τ w->bR.Bytes w ab nb nb (bR.fO gl)):=fun ks D τ w q=>bR.bytes_of_row (q.rowOf (by simp)) (bR.uu gl Ku.out.2.2)
     have XJ:Hid (bR.dec 2000 (bR.fO gl)=gl):=bR.He gl 2000 Ku.out.2.2 (by have:=Ku.out.1;have:=Ku.out.2.1;omega)
     have VH:=zH (T4.out.bytes (pl:=pl) (by simp) HST.out Ku.out.1 (by have:=Ku.out.2.1;omega) (YI.out [] _ _ _ T4.out) XJ.out)
     clear hbr hb4 hor T3 VG
     go_wp2_with ((go_at_call 25;refine VH.out.mono ?_;rintro x w5 ⟨vo,cs,ls,rfl,har,q⟩;obtain⟨ax,cx,rfl,hax⟩:=q.answer (nK) har (fun k Z=>by simp[Z]);rw[List.length_map,List.length_range] at q ⊢;have T5:=zH q;have XK:=zH har;clear q har hax T4 VH))
     go_loopw [14] (fun i wr=>∃ (j:Nat) (ks':List Kept),i=I j∧j<=gn∧E2 H ce wa (ks'++(.row 8 (.slice ax gn cx) cs::ls++[.row 1 (.slice ab nb nb) (bR.wM (bR.fO gl)),.row 7 (.slice a2 gn cap2) (bR.gZ gl),.obj pl (bC H),.obj ql (bC ce)])) [] (σs gn) (σs j) wr) (fun i _=>gn - (intOf i).toNat)
     case atStart=>exact⟨0,[],rfl,zz _,T5.out⟩
     case round=>
      obtain⟨j,ks',rfl,hj,q⟩:=hrel
      have n1:IntKind.i64.wrap ((j:Int)+1)=(j:Int)+1:=by rw[jG];have:=Ku.out.2.1;omega
      by_cases hlt:j<gn
      . obtain⟨e,he⟩:∃ e,gl[j]? =some e:=⟨gl[j]'(by rw[<-Ku.out.1];exact hlt),zx _⟩
        have VI:=HST.out j e he ce ql
        obtain⟨r,hr⟩:∃ r,ans j=r:=⟨_,rfl⟩
        rw[hr] at VI
        have hget:((List.range gn).map ans)[j]? =some r:=by rw[List.getElem?_map,List.getElem?_range hlt,<-hr];rfl
        obtain⟨vp,m1,m2⟩:=XK.out.2 j r hget
        obtain⟨va,pn,vc,rfl,hpn⟩:∃ va pn vc,vp=.slice va pn vc∧pn=r.ps.length:=by
         obtain⟨va,vn,vc,e1,e2,_⟩:=q.rowOf (size:=2) (v:=vp) (xs:=bJ r.ps) (by simp[m1])
         rw[jZ] at e2
         exact⟨va,vn,vc,e1,by omega⟩
        obtain⟨g1,o1,rfl⟩:∃ g off,a2=za g off:=by
         obtain⟨av,jc,e1,hrow⟩:=uy (q.rowOf (size:=7) (v:=.slice a2 gn cap2) (xs:=bR.gZ gl) (by simp))
         simp only[Value.slice.injEq] at e1
         obtain⟨rfl,-,rfl⟩:=e1
         obtain⟨g1,o1,h1,-⟩:=hrow j e he
         exact⟨g1,o1,h1⟩
        obtain⟨g2,o2,rfl⟩:∃ g off,ax=za g off:=by
         obtain⟨av,jc,e1,XL⟩:=q.answer (vo:=.slice ax gn cx) (by simp) XK.out (fun k Z=>by simp[Z])
         simp only[Value.slice.injEq] at e1
         obtain⟨rfl,-,rfl⟩:=e1
         obtain⟨g1,o1,_,_,_,h1,-⟩:=XL j r hget
         exact⟨g1,o1,h1⟩
        obtain⟨er,id,kd,re,rv,rn,ro,ps⟩:=r
        simp only at hpn VI m1
        have XM:Hid (∀ ks' bB YJ E,E2 H ce wa (ks'++(.row 8 (.slice (some (J g2 o2)) gn cx) cs::ls++[.row 1 (.slice ab nb nb) (bR.wM (bR.fO gl)),.row 7 (.slice (some (J g1 o1)) gn cap2) (bR.gZ gl),.obj pl (bC H),.obj ql (bC ce)])) [] bB YJ E->E.cell? ⟨g1,o1+j*7,none⟩=zt e.k∧E.cell? ⟨g1,o1+j*7+1,none⟩=zt e.s∧E.cell? ⟨g1,o1+j*7+2,none⟩=zt e.lv∧E.cell? ⟨g1,o1+j*7+3,none⟩=zt e.ok∧E.cell? ⟨g1,o1+j*7+4,none⟩=zt e.oy∧E.cell? ⟨g1,o1+j*7+5,none⟩=zt e.oh∧E.cell? ⟨g1,o1+j*7+6,none⟩=zt e.ov∧E.cell? ⟨g2,o2+j*8,none⟩=zt er∧E.cell? ⟨g2,o2+j*8+1,none⟩=zt id∧E.cell? ⟨g2,o2+j*8+2,none⟩=zt kd∧E.cell? ⟨g2,o2+j*8+3,none⟩=zt re∧E.cell? ⟨g2,o2+j*8+4,none⟩=zt rv∧E.cell? ⟨g2,o2+j*8+5,none⟩=some (.slice va pn vc)∧E.cell? ⟨g2,o2+j*8+6,none⟩=zt rn∧E.cell? ⟨g2,o2+j*8+7,none⟩=zt ro):=fun ks' bB YJ E q=>by
         have x1:=q.rowOf (size:=7) (v:=.slice (some (J g1 o1)) gn cap2) (xs:=bR.gZ gl) (by simp)
         have x2:=q.rowOf (size:=8) (v:=.slice (some (J g2 o2)) gn cx) (xs:=cs) (by simp)
         have y1:∀ f u,f<7->(bR.cellsE e)[f]? =some u->E.cell? (J g1 (o1+(j*7+f)))=some u:=by
          obtain⟨av,cp,e1,h⟩:=uy x1
          simp only[Value.slice.injEq] at e1
          obtain⟨rfl,-,rfl⟩:=e1
          obtain⟨g,o,e2,h2⟩:=h j e he
          simp only[Option.some.injEq,Addr.mk.injEq] at e2
          obtain⟨rfl,rfl,-⟩:=e2
          exact h2
         have y2:∀ f u,(Cs ⟨er,id,kd,re,rv,rn,ro,ps⟩ (.slice va pn vc))[f]? =some u->E.cell? (J g2 (o2+(j*8+f)))=some u:=fun f u hu=>Sz x2 (m2 f u hu)
         obtain⟨ek,AX,mD,kT,lQ,mJ,mi⟩:=e
         simp only[<-Nat.add_assoc,Nat.add_zero] at y1 y2
         exact⟨y1 0 _ (by omega) rfl,y1 1 _ (by omega) rfl,y1 2 _ (by omega) rfl,y1 3 _ (by omega) rfl,y1 4 _ (by omega) rfl,y1 5 _ (by omega) rfl,y1 6 _ (by omega) rfl,y2 0 _ rfl,y2 1 _ rfl,y2 2 _ rfl,y2 3 _ rfl,y2 4 _ rfl,y2 5 _ rfl,y2 6 _ rfl,y2 7 _ rfl⟩
        have HE:=zH VI
        obtain⟨ek,AX,mD,kT,lQ,mJ,mi⟩:=e
        have HPN:=zH hpn
        have HM1:=zH m1
        have HJ:=zH (zA hj hlt)
        have YK:=zH q.drew
        have i1:(0:Int)<=(j:Int):=by omega
        have i2:(j:Int)<(gn:Int):=by omega
        have S0:=XM.out ks' _ _ _ q
        clear he VI hr hget m1 m2 hpn hj hlt q
        go_upto_region 22 with fail
        go_region_held3 (fun E=>E.cell? ⟨g1,o1+j*7,none⟩=zt ek∧E.cell? ⟨g1,o1+j*7+1,none⟩=zt AX∧E.cell? ⟨g1,o1+j*7+2,none⟩=zt mD∧E.cell? ⟨g1,o1+j*7+3,none⟩=zt kT∧E.cell? ⟨g1,o1+j*7+4,none⟩=zt lQ∧E.cell? ⟨g1,o1+j*7+5,none⟩=zt mJ∧E.cell? ⟨g1,o1+j*7+6,none⟩=zt mi∧E.cell? ⟨g2,o2+j*8,none⟩=zt er∧E.cell? ⟨g2,o2+j*8+1,none⟩=zt id∧E.cell? ⟨g2,o2+j*8+2,none⟩=zt kd∧E.cell? ⟨g2,o2+j*8+3,none⟩=zt re∧E.cell? ⟨g2,o2+j*8+4,none⟩=zt rv∧E.cell? ⟨g2,o2+j*8+5,none⟩=some (.slice va pn vc)∧E.cell? ⟨g2,o2+j*8+6,none⟩=zt rn∧E.cell? ⟨g2,o2+j*8+7,none⟩=zt ro)
         (first|exact S0|assumption|exact XM.out (_::ks') _ _ _ T7.out|exact XM.out (_::ks') _ _ _ T8.out)
         (first
           |(go_at_call 27;refine (E2.entry (pn:=pn) HE.out HPN.out YK.out.symm (by simp)).mono ?_;clear S0;rintro x wA ⟨va2,vc2,rfl,qA⟩;have T7:=zH qA.symm;clear qA YK)
           |(go_at_call 26;refine (Na er id kd re rv rn ro va2 va pn vc2 vc ps _ (T7.out.rowOf nK) (T7.out.rowOf (by simp[HM1.out]))).mono ?_;rintro x wB ⟨rfl,hb⟩;have T8:=zH (T7.out.below hb);clear hb T7))
        go_wp2_with fail
        go_roundw
        case rel=>exact⟨j+1,_::ks',rfl,by have:=HJ.out.2;omega,T8.out⟩
        case measure=>simp[intOf];have:=HJ.out.2;omega
      . obtain rfl:j=gn:=by omega
        have k3:((j:Int)<(j:Int))=False:=by simp
        obtain⟨tl,htl⟩:∃ tl,tl=aD.aT:=⟨_,rfl⟩
        obtain⟨KS,Ve⟩:∃ KS,KS=ks'++(.row 8 (.slice ax j cx) cs::ls++[.row 1 (.slice ab nb nb) (bR.wM (bR.fO gl)),.row 7 (.slice a2 j cap2) (bR.gZ gl),.obj pl (bC H),.obj ql (bC ce)]):=⟨_,rfl⟩
        have YL:Hid (Kept.obj pl (bC H)∈KS):=zH (by rw[Ve];simp)
        have YM:Hid (Kept.obj ql (bC ce)∈KS):=zH (by rw[Ve];simp)
        have XN:Hid (∀ D τ E,E2 H ce wa KS [] D τ E->zS E pl 0 H 0∧zS E ql 0 ce 0):=fun D τ E q=>⟨fC (q.obj YL.out) 0 rfl,fC (q.obj YM.out) 0 rfl⟩
        have HB1:Hid (∀ D τ E,E2 H ce wa KS [] D τ E->bR.Bytes E ab nb nb (bR.fO gl)):=fun D τ E q=>bR.bytes_of_row (q.rowOf (by rw[Ve];simp)) (bR.uu gl Ku.out.2.2)
        have HT1:Hid (∀ w,E2 H ce wa KS [] aD aD w->zk 15 #[R H 0] w fun e E=>∃ v cs,e=.returned v∧Ow.Row E 0 12 v cs∧yT E tl cs∧Below w.heap.size w E):=fun w q=>by rw[htl];exact q.aT Nt.out.1 Nt.out.2
        have HT2:Hid (∀ w,E2 H ce wa KS [] aD aD w->zk 15 #[R ce 0] w fun e E=>∃ v cs,e=.returned v∧Ow.Row E 0 12 v cs∧yT E tl cs∧Below w.heap.size w E):=fun w q=>by rw[htl];exact q.symm.aT Nt.out.1 Nt.out.2
        have HPY:Hid (∀ w,E2 H ce wa KS [] aD aD w->zk 29 #[.agg #[I 30,zu 200],.slice ab nb nb] w fun e E=>∃ v cs,e=.returned (.tuple #[v,I 0])∧Ow.Row E 0 12 v cs∧yT E tl cs∧Below w.heap.size w E):=fun w q=>by rw[htl];exact AY (N:=30) (L:=200) (by omega) (by omega) (by omega) (by omega) HZ.out HST.out Ku.out.1 (by have:=Ku.out.2.1;omega) XI.out Nt.out.1 Nt.out.2 (HB1.out _ _ _ q) XJ.out
        have T6:Hid (E2 H ce wa KS [] (σs j) (σs j) wr):=by rw[Ve];exact q
        clear htl Ve q hj hlt YI HST HZ XJ T5 XK
        go_wp2_with (first
          |(go_at_call 28;refine (E2.fin T6.out YL.out XI.out).mono ?_;rintro x w6 ⟨rfl,q⟩;have T7:=zH q;clear q T6)
          |(go_at_call 28;refine (E2.fin T7.out.symm YM.out XI.out).mono ?_;rintro x w7 ⟨rfl,q⟩;obtain⟨z0,z1⟩:=XG.out w7 q.toBelow;rw[YH.out] at z0 z1;have T8:=zH q.symm;clear q T7)
          |(go_at_call 29;refine (HPY.out _ T8.out).mono ?_;rintro x w8 ⟨vt,ct,rfl,rt,et,hb⟩;have T9:=zH (T8.out.below hb);obtain⟨x0,-⟩:=XN.out _ _ _ T9.out;have XO:=zH (zA rt et);clear hb T8 rt et z0 z1)
          |(go_at_call 30;refine (vW pl H _ x0).mono ?_;rintro x E ⟨rfl,rfl⟩;clear x0)
          |(go_at_call 15;refine (HT1.out _ T9.out).mono ?_;rintro x w10 ⟨v1,c1,rfl,r1,e1,hb⟩;have TA:=zH (T9.out.below hb);obtain⟨-,x1⟩:=XN.out _ _ _ TA.out;have HR1:=zH (zA r1 e1);have SC:=zH (zA (XO.out.1.below hb) (XO.out.2.below hb));clear hb T9 r1 e1 XO)
          |(go_at_call 30;refine (vW ql ce _ x1).mono ?_;rintro x E ⟨rfl,rfl⟩;clear x1)
          |(go_at_call 15;refine (HT2.out _ TA.out).mono ?_;rintro x w11 ⟨v2,c2,rfl,r2,e2,hb⟩;have TB:=zH (TA.out.below hb);have HR2:=zH (zA r2 e2);have SE:=zH (zA (HR1.out.1.below hb) (HR1.out.2.below hb));have SF:=zH (zA (SC.out.1.below hb) (SC.out.2.below hb));clear hb TA r2 e2 SC HR1)
          |(go_at_call 14;refine (vV _ _ tl c1 c2 _ SE.out.1 HR2.out.1 SE.out.2 HR2.out.2).mono ?_;rintro x w12 ⟨rfl,hb⟩;have TC:=zH (TB.out.below hb);obtain⟨x0,-⟩:=XN.out _ _ _ TC.out;have SG:=zH (zA (SF.out.1.below hb) (SF.out.2.below hb));clear hb TB SE HR2 SF)
          |(go_at_call 15;refine (HT1.out _ TC.out).mono ?_;rintro x w13 ⟨v3,c3,rfl,r3,e3,hb⟩;have TD:=zH (TC.out.below hb);have HR3:=zH (zA r3 e3);have SH:=zH (zA (SG.out.1.below hb) (SG.out.2.below hb));clear hb TC r3 e3 SG)
          |(go_at_call 14;refine (vV _ _ tl ct c3 _ SH.out.1 HR3.out.1 SH.out.2 HR3.out.2).mono ?_;rintro x w14 ⟨rfl,hb⟩;have TE:=zH (TD.out.below hb);clear hb TD SH HR3)
          |(go_at_call 31;refine (Nn _).mono ?_;rintro x w15 ⟨rfl,hb⟩;have TF:=zH (TE.out.below hb);clear hb TE))
        go_ret
        exact⟨rfl,HB0.out _ TF.out.toBelow⟩)
end Go.Proofs.YthicolbbmjfkfaaGreat.Em
