import Derived.Test.YthicolbbmjfkfaaGreatQf19
import Derived.Test.YthicolbbmjfkfaaGreatQf20
set_option linter.unusedVariables false
set_option linter.unusedSimpArgs false
set_option maxRecDepth 100000
set_option maxHeartbeats 1600000
namespace Go.Proofs.YthicolbbmjfkfaaGreat.Em
open Go.ChangeShapes Go.WideShapes Go.ChangeAt Go.RowKit En
variable {A:az} {D:St} {w:World}
def sI (s:Int):Bool:=decide (0<=s)&&decide (s<8)
def lI (l:Int):Bool:=decide (1<=l)&&decide (l<=3)
theorem Lp {s:Int} (h:sI s=true):∃ n:Nat,s=n∧n<8:=by
 unfold sI at h;simp at h;exact⟨s.toNat,by omega,by omega⟩
theorem Lr {n:Nat} (h:n<8):sI n=true:=by unfold sI;simp;omega
theorem TW {l:Int} (h:lI l=true):∃ n:Nat,l=n∧1<=n∧n<=3:=by
 unfold lI at h;simp at h;exact⟨l.toNat,by omega,by omega,by omega⟩
theorem oJ (s:Int) (w:World):zk 40 #[I s] w fun e E=>e=.returned (.bool (sI s))∧w=E:=by
 go_enter Tryz.func40,Tryz.ntmps40;go_wp2
 all_goals (
  go_ret
  refine⟨congrArg (fun b=>Ending.returned (Value.bool b)) ?_,rfl⟩
  rw[Bool.eq_iff_iff]
  unfold sI
  (try simp_all)<;>(try omega))
theorem Q7 (s:Int) (w:World):zk 41 #[I s] w fun e E=>e=.returned (.bool (lI s))∧w=E:=by
 go_enter Tryz.func41,Tryz.ntmps41;go_wp2
 all_goals (
  go_ret
  refine⟨congrArg (fun b=>Ending.returned (Value.bool b)) ?_,rfl⟩
  rw[Bool.eq_iff_iff]
  unfold lI
  (try simp_all)<;>(try omega))
theorem Jb (V:Nat) (w:World) (s ax:Int) (Z:sI s=false∨lI ax=false):
 zk 9 #[R V 0,I s,I ax] w fun e E=>e=.returned (.tuple #[I 0,I 1])∧w=E:=by
 have gG:=U (oJ s);have wN:=U (Q7 ax)
 cases h1:sI s with
 |false=>
  rw[h1] at gG;clear Z wN h1;go_enter Tryz.func9,Tryz.ntmps9;go_wp2_with (first|(go_at_call 40;refine (gG.out _).mono ?_;rintro e E ⟨rfl,rfl⟩))
  go_ret2
  exact⟨rfl,rfl⟩
 |true=>
  have h2:lI ax=false:=Z.resolve_left (by rw[h1];simp);rw[h1] at gG;rw[h2] at wN;clear Z h1 h2;go_enter Tryz.func9,Tryz.ntmps9;go_wp2_with (first|(go_at_call 40;refine (gG.out _).mono ?_;rintro e E ⟨rfl,rfl⟩)|(go_at_call 41;refine (wN.out _).mono ?_;rintro e E ⟨rfl,rfl⟩))
  go_ret2
  exact⟨rfl,rfl⟩
theorem Jc (V:Nat) (w:World) (s k F hi v:Int) (Z:sI s=false):
 zk 33 #[R V 0,I s,.agg #[I k,I F,I hi,I v]] w fun e E=>e=.returned (I 1)∧Below w.heap.size w E:=by
 have gG:=U (oJ s);rw[Z] at gG;have HB:=U ((Below.refl _ w).alloc (zr _) (.cells #[I k,I F,I hi,I v] 27));clear Z;go_enter Tryz.func33,Tryz.ntmps33;go_wp2_with (first|(go_at_call 40;refine (gG.out _).mono ?_;rintro e E ⟨rfl,rfl⟩));go_ret;exact⟨rfl,HB.out⟩
theorem wW (hL:Live A D w) (s:Nat) (hs:s<8) (k F hi v:Int) (Z:D.ai.getD s none=none∨BX k F hi v=false∨(D.calls.getD s none).isSome=true):
 zk 33 #[R A.V 0,I s,.agg #[I k,I F,I hi,I v]] w fun e E=>e=.returned (I 9)∧Below w.heap.size w E:=by
 have gG:=U (oJ (s:Int));rw[Lr hs] at gG;have hok:=U (DK k F hi v);obtain⟨r0,g0,f0⟩:=dz hL.rep #[I k,I F,I hi,I v] 27;have b1:(s:Int)<8:=by omega
 have b0:(0:Int)<=(s:Int):=by omega
 have hcf:A.bH s=.pointer none∧D.calls.getD s none=none∨A.bH s=R (A.bc s) 0∧(D.calls.getD s none).isSome=true:=by
  cases e:D.calls.getD s none with
  |none=>exact .inl ⟨hL.idle s hs e,rfl⟩
  |some c=>exact .inr ⟨(hL.call s hs c e).1,rfl⟩
 obtain⟨vc,tL⟩:∃ vc,vc=A.bH s:=⟨_,rfl⟩
 rw[<-tL] at hcf;obtain⟨vt,Tk⟩:∃ vt,vt=A.tp D s:=⟨_,rfl⟩
 have YT:vt=.pointer none∧D.ai.getD s none=none∨vt=R (A.bt s) 0∧(D.ai.getD s none).isSome=true:=by
  rw[Tk];unfold az.tp
  cases e:D.ai.getD s none with
  |none=>exact .inl ⟨rfl,rfl⟩
  |some t=>exact .inr ⟨rfl,rfl⟩
 have HW:Hid (∀ E,Below (w.alloc (.cells #[I k,I F,I hi,I v] 27)).heap.size (w.alloc (.cells #[I k,I F,I hi,I v] 27)) E->Below w.heap.size w E∧(zT E w.heap.size 0 k∧zT E w.heap.size 1 F∧zT E w.heap.size 2 hi∧zT E w.heap.size 3 v)∧E.cell? (J A.V (5+s))=some vt∧E.cell? (J A.V (13+s))=some vc):=by
  intro E Z;have r:=r0.below Z;have f:=f0.grow (Grow.below (L:=A.L) Z);exact⟨((Below.refl _ _).alloc (zr _) _).trans (Z.mono (by simp)),⟨f.cell 0 rfl,f.cell 1 rfl,f.cell 2 rfl,f.cell 3 rfl⟩,by rw[Tk];exact r.bT (5+s) (dQ A D hs),by rw[tL];exact r.bT (13+s) (ed A D hs)⟩
 obtain⟨hb0,⟨o0,o1,o2,o3⟩,v1,v2⟩:=HW.out _ (Below.refl _ _);have HB0:=U hb0;clear hL r0 g0 f0 hs hb0 tL Tk
 rcases YT with ⟨rfl,ht⟩|⟨rfl,ht⟩
 . clear hcf Z ht
   go_enter Tryz.func33,Tryz.ntmps33;go_wp2_with (first|(go_at_call 40;refine (gG.out _).mono ?_;rintro e E ⟨rfl,rfl⟩));go_ret;exact⟨rfl,HB0.out⟩
 . replace Z:BX k F hi v=false∨(D.calls.getD s none).isSome=true:=Z.resolve_left (fun e=>by rw[e] at ht;cases ht)
   cases ho:BX k F hi v with
   |false=>
    rw[ho] at hok;clear hcf Z ht ho;go_enter Tryz.func33,Tryz.ntmps33;go_wp2_with (first|(go_at_call 40;refine (gG.out _).mono ?_;rintro e E ⟨rfl,rfl⟩)|(go_at_call 68;refine (hok.out _).mono ?_;rintro e H ⟨rfl,Z⟩;have H1:=U (HW.out H Z).1;clear Z));go_ret;exact⟨rfl,H1.out⟩
   |true=>
    rcases hcf with ⟨_,hc⟩|⟨rfl,hc⟩
    . rw[ho,hc] at Z
      rcases Z with Z|Z<;>cases Z
    rw[ho] at hok;clear Z ht ho hc;go_enter Tryz.func33,Tryz.ntmps33;go_wp2_with (first|(go_at_call 40;refine (gG.out _).mono ?_;rintro e E ⟨rfl,rfl⟩)|(go_at_call 68;refine (hok.out _).mono ?_;rintro e H ⟨rfl,Z⟩;obtain⟨hbb,⟨y0,y1,y2,y3⟩,x1,x2⟩:=HW.out H Z;have H1:=U hbb;clear Z hbb));go_ret;exact⟨rfl,H1.out⟩
theorem Ls (V:Nat) (w:World) (s:Int) (Z:sI s=false):
 zk 34 #[R V 0,I s] w fun e E=>e=.returned (.tuple #[.agg #[I 0,I 0,I 0,.slice none 0 0,I 0,I 0],I 1])∧Below w.heap.size w E:=by
 have gG:=U (oJ s);rw[Z] at gG;have HB:=U ((Below.refl _ w).alloc (zr _) (.cells #[I 0,I 0,I 0,.slice none 0 0,I 0,I 0] 81));clear Z;go_enter Tryz.func34,Tryz.ntmps34;go_wp2_with (first|(go_at_call 40;refine (gG.out _).mono ?_;rintro e E ⟨rfl,rfl⟩));refine bodyPost_ret (eZ rfl _ _ w.heap.size 81 #[I 0,I 0,I 0,.slice none 0 0,I 0,I 0] _ _ rfl (heap_alloc_new w _) Tryz.underlying81 rfl (by kernel_rfl)) rfl ?_;exact⟨rfl,HB.out⟩
theorem OU (hL:Live A D w) (s:Nat) (hs:s<8) (hn:D.calls.getD s none=none):
 zk 34 #[R A.V 0,I s] w fun e E=>e=.returned (.tuple #[.agg #[I 0,I 0,I 0,.slice none 0 0,I 0,I 0],I 9])∧Below w.heap.size w E:=by
 have gG:=U (oJ (s:Int));rw[Lr hs] at gG;have b1:(s:Int)<8:=by omega
 have b0:(0:Int)<=(s:Int):=by omega
 have HB:=U ((Below.refl _ w).alloc (zr _) (.cells #[I 0,I 0,I 0,.slice none 0 0,I 0,I 0] 81));have v1:(w.alloc (.cells #[I 0,I 0,I 0,.slice none 0 0,I 0,I 0] 81)).cell? (J A.V (13+s))=some (.pointer none):=((hL.rep.alloc _).bT (13+s) (ed A D hs)).trans (by rw[hL.idle s hs hn]);clear hL hs hn;go_enter Tryz.func34,Tryz.ntmps34;go_wp2_with (first|(go_at_call 40;refine (gG.out _).mono ?_;rintro e E ⟨rfl,rfl⟩));refine bodyPost_ret (eZ rfl _ _ w.heap.size 81 #[I 0,I 0,I 0,.slice none 0 0,I 0,I 0] _ _ rfl (heap_alloc_new w _) Tryz.underlying81 rfl (by kernel_rfl)) rfl ?_;exact⟨rfl,HB.out⟩
theorem wX (V:Nat) (w:World) (s:Int) (Z:sI s=false):
 zk 10 #[R V 0,I s] w fun e E=>e=.returned (.agg (dF {}))∧Below w.heap.size w E:=by
 have gG:=U (oJ s);rw[Z] at gG;have HB:=U ((Below.refl _ w).alloc (zr _) (.cells #[.bool false,.bool false,.bool false,I 0,I 0,I 0,zu 0,zu 0,I 0] 42));clear Z;go_enter Tryz.func10,Tryz.ntmps10;go_wp2_with (first|(go_at_call 40;refine (gG.out _).mono ?_;rintro e E ⟨rfl,rfl⟩));refine bodyPost_ret (results_cell_row rfl _ _ w.heap.size 42 #[.bool false,.bool false,.bool false,I 0,I 0,I 0,zu 0,zu 0,I 0] _ _ rfl (heap_alloc_new w _) Tryz.underlying42 rfl (by kernel_rfl)) rfl ?_;exact⟨rfl,HB.out⟩
theorem Jd (lv bz wt:Bool) (a1 a2 a3 a4 a5 ops:Int) (w:World):(binOp .eql 42 (.agg #[.bool lv,.bool bz,.bool wt,I a1,I a2,I a3,zu a4,zu a5,I ops]) (.agg #[.bool lv,.bool bz,.bool wt,I a1,I a2,I a3,zu a4,zu a5,I ops])).run Tryz.prog w=.ok (.bool true) w:=by
 go_simp
theorem qW (st:Status):∃ (lv bz wt:Bool) (a1 a2 a3 a4 a5 ops:Int),dF st=#[.bool lv,.bool bz,.bool wt,I a1,I a2,I a3,zu a4,zu a5,I ops]∧bz=st.busy∧ops=(st.ops:Int):=⟨_,_,_,_,_,_,_,_,_,rfl,rfl,rfl⟩
theorem uo {B:dW} {V:Nat} {w0 w:World} {ks:List Kept} {W:Wd} (h:WK B V w0 ks W w) (s ax er:Int) (aC:St) (her:er≠0) (uu:aC.now=W.D.now) (hx:W.D.word 0<18446744073709551616) (hx1:aC.word 0<18446744073709551616)
 (HB:∀ ks H,WK B V w0 ks W H->zk 9 #[R V 0,I s,I ax] H fun e E=>e=.returned (.tuple #[I 0,I er])∧WK B V w0 ks {W with D:=aC} E):
 zk 54 #[R B.bw 0,I s,I ax] w fun e E=>e=.returned (.bool true)∧WK B V w0 ks {W with D:=aC} E:=by
 obtain⟨nw,hnw⟩:∃ nw,nw=W.D.now:=⟨_,rfl⟩
 have N1:=U (wR h hx);rw[<-hnw] at N1;have N2:=U HB;have N3:Hid (∀ H,WK B V w0 ks {W with D:=aC} H->zk 19 #[R V 0] H fun e E=>e=.returned (zu nw)∧WK B V w0 ks {W with D:=aC} E):=fun H q=>by
  have hh:=wR q hx1;rw[show ({W with D:=aC}:Wd).D.now=nw by rw[hnw];exact uu] at hh;exact hh
 have C:Hid (∀ bF H,WK B V w0 ks {W with D:=bF} H->H.cell? (J B.bw 0)=zs V 0):=fun bF H q=>(q.fZ 0 rfl).1
 have x0:=C.out W.D w h;have e1:(er==0)=false:=by simpa using her
 have e2:(er !=0)=true:=by simpa using her
 have e3:(er=0)=False:=by simpa using her
 have T0:=U h;clear h HB uu hx hx1 hnw her;go_enter Tryz.func54,Tryz.ntmps54;go_wp2_with (first|(go_at_call 19;refine N1.out.mono ?_;clear T0;rintro e H ⟨rfl,q⟩;have x1:=C.out W.D H q;have T1:=U q;clear q)|(go_at_call 9;refine (N2.out _ _ T1.out).mono ?_;rintro e w2 ⟨rfl,q⟩;have y0:=C.out aC w2 q;have T2:=U q;clear q T1)|(go_at_call 19;refine (N3.out _ T2.out).mono ?_;rintro e w3 ⟨rfl,q⟩;have T3:=U q;clear q T2));go_ret;exact⟨rfl,T3.out⟩
theorem zI {B:dW} {V:Nat} {w0 w:World} {ks:List Kept} {W:Wd} (h:WK B V w0 ks W w) (s k F hi v er:Int) (st:Status)
 (HS:∀ ks H,WK B V w0 ks W H->zk 10 #[R V 0,I s] H fun e E=>e=.returned (.agg (dF st))∧WK B V w0 ks W E)
 (HI:∀ ks H,WK B V w0 ks W H->zk 33 #[R V 0,I s,.agg #[I k,I F,I hi,I v]] H fun e E=>e=.returned (I er)∧WK B V w0 ks W E)
 (hm:er=1∧(s<0∨7<s)∨∃ n id:Nat,s=(n:Int)∧n<8∧W.ids.getD n 0=id∧(er=9∧id=0∨er=9∧id≠0∧BX k F hi v=false∨id≠0∧BX k F hi v=true∧(er=9∧st.busy=true∨er=65∧st.busy=false∧k<6∧12<=st.ops))):
 zk 55 #[R B.bw 0,I s,.agg #[I k,I F,I hi,I v]] w fun e E=>e=.returned (.bool true)∧∃ ks',WK B V w0 (ks'++ks) W E:=by
 obtain⟨lv,bz,wt,a1,a2,a3,a4,a5,ops,hst,hbz,hops⟩:=qW st;rw[hst] at HS;have N1:=U HS;have N2:=U HI;have N3:=U (DL k F hi v);have heq:=Jd lv bz wt a1 a2 a3 a4 a5 ops;have C:Hid (∀ ks H,WK B V w0 ks W H->H.cell? (J B.bw 0)=zs V 0):=fun ks H q=>(q.fZ 0 rfl).1
 have O0:Hid (∀ ks H g,WK B V w0 (.obj g (.cells #[I k,I F,I hi,I v] 27)::ks) W H->zT H g 0 k∧zT H g 1 F∧zT H g 2 hi∧zT H g 3 v):=fun ks H g q=>by
  have Z:=q.obj (iG);exact⟨au Z 0 rfl,au Z 1 rfl,au Z 2 rfl,au Z 3 rfl⟩
 have O1:Hid (∀ ks H g,WK B V w0 (.obj g (.cells #[.bool lv,.bool bz,.bool wt,I a1,I a2,I a3,zu a4,zu a5,I ops] 42)::ks) W H->zB H g 0 lv∧zB H g 1 bz∧zB H g 2 wt∧zT H g 3 a1∧zT H g 4 a2∧zT H g 5 a3∧zV H g 6 a4∧zV H g 7 a5∧zT H g 8 ops):=fun ks H g q=>by
  have Z:=q.obj (iG);exact⟨au Z 0 rfl,au Z 1 rfl,au Z 2 rfl,au Z 3 rfl,au Z 4 rfl,au Z 5 rfl,au Z 6 rfl,au Z 7 rfl,au Z 8 rfl⟩
 have HO:Hid (∀ ks H g g0,WK B V w0 (.obj g (.cells #[.bool lv,.bool bz,.bool wt,I a1,I a2,I a3,zu a4,zu a5,I ops] 42)::.obj g0 (.cells #[I k,I F,I hi,I v] 27)::ks) W H->zT H g0 0 k∧zT H g0 1 F∧zT H g0 2 hi∧zT H g0 3 v):=fun ks H g g0 q=>O0.out _ _ _ q.tail
 have T0:=U (h.alloc (.cells #[I k,I F,I hi,I v] 27));have x0:=C.out _ _ T0.out;obtain⟨o0,o1,o2,o3⟩:=O0.out _ _ _ T0.out;have i8:=h.i8;have hid:Hid (∀ n:Nat,n<8->∀ ks H,WK B V w0 ks W H->H.cell? (J B.bw (2+n))=zt ((W.ids.getD n 0:Nat):Int)):=fun n hn ks H q=>(q.fZ (2+n) (lK i8 hn)).1
 have HW:Hid (∃ X:Unit,True):=⟨(),trivial⟩
 clear h HS HI hst i8;have ae:(er=1∧(((s<0)=True∧decide (s<0)=true)∨((s<0)=False∧decide (s<0)=false∧(7<s)=True∧decide (7<s)=true)))∨(∃ n id:Nat,s=(n:Int)∧n<8∧W.ids.getD n 0=id∧(er=9∧id=0∨er=9∧(((id:Int)==0)=false∧((id:Int)=0)=False∧(id=0)=False)∧BX k F hi v=false∨(((id:Int)==0)=false∧((id:Int)=0)=False∧(id=0)=False)∧BX k F hi v=true∧(er=9∧bz=true∨er=65∧bz=false∧((k<6)=True∧decide (k<6)=true)∧((12<=ops)=True∧decide (12<=ops)=true)))):=by
  rcases hm with ⟨e1,e2⟩|⟨n,id,e1,e2,e3,e4⟩
  . refine .inl ⟨e1,?_⟩
    by_cases h0:s<0
    . exact .inl ⟨by simpa using h0,by simpa using h0⟩
    . have h7:7<s:=e2.resolve_left h0
      exact .inr ⟨by simpa using h0,by simpa using h0,by simpa using h7,by simpa using h7⟩
  . refine .inr ⟨n,id,e1,e2,e3,?_⟩
    rcases e4 with e4|⟨e4,e5,e6⟩|⟨e4,e5,⟨e6,e7⟩|⟨e6,e7,e8,e9⟩⟩
    . exact .inl e4
    . exact .inr (.inl ⟨e4,⟨by simpa using e5,by simpa using e5,by simpa using e5⟩,e6⟩)
    . exact .inr (.inr ⟨⟨by simpa using e4,by simpa using e4,by simpa using e4⟩,e5,.inl ⟨e6,hbz.trans e7⟩⟩)
    . exact .inr (.inr ⟨⟨by simpa using e4,by simpa using e4,by simpa using e4⟩,e5,.inr ⟨e6,hbz.trans e7,⟨by simpa using e8,by simpa using e8⟩,⟨by rw[hops];simp;omega,by rw[hops];simp;omega⟩⟩⟩)
 clear hm hbz hops
 rcases ae with ⟨rfl,⟨f1,f2⟩|⟨f1,f2,f3,f4⟩⟩|⟨n,id,rfl,hn,TY,ae⟩
 rotate_left 2
 . have b0:((n:Int)<0)=False:=by simp
   have b1:((7:Int)<(n:Int))=False:=by simp;omega
   have b2:(0:Int)<=(n:Int):=by omega
   have b3:(n:Int)<8:=by omega
   have b4:decide ((n:Int)<0)=false:=by simp
   have b5:decide ((7:Int)<(n:Int))=false:=by simp;omega
   have b6:(7<n)=False:=by simp;omega
   have RV:Hid (∀ ks H,WK B V w0 ks W H->H.cell? (J B.bw (2+n))=zt id):=fun ks H q=>by have:=hid.out n hn ks H q;rw[TY] at this;exact this
   clear hid TY hn
   rcases ae with ⟨rfl,rfl⟩|⟨rfl,⟨f1,f2,f3⟩,f4⟩|⟨⟨f1,f2,f3⟩,f4,⟨rfl,rfl⟩|⟨rfl,rfl,⟨f5,f6⟩,⟨f7,f8⟩⟩⟩
   rotate_left 1
   . rw[f4] at N3
     clear f4;go_enter Tryz.func55,Tryz.ntmps55;go_upto_region 2 with (go_at_call 10;refine (N1.out _ _ T0.out).mono ?_;rintro e H ⟨rfl,q⟩;have T1:=U (q.alloc (.cells #[.bool lv,.bool bz,.bool wt,I a1,I a2,I a3,zu a4,zu a5,I ops] 42));clear q T0)
     generalize H.alloc _=v1 at*;generalize H.heap.size=g1 at*;generalize w.heap.size=g0 at*;have zD:=U T1.out.drew;have u0:=C.out _ _ T1.out;obtain⟨p0,p1,p2,p3⟩:=HO.out _ _ _ _ T1.out;have zF:Hid (∀ E,WK B V w0 (.obj g1 (.cells #[.bool lv,.bool bz,.bool wt,I a1,I a2,I a3,zu a4,zu a5,I ops] 42)::.obj g0 (.cells #[I k,I F,I hi,I v] 27)::ks) W E->zS E B.bw 0 V 0∧zT E g0 0 k∧zT E g0 1 F∧zT E g0 2 hi∧zT E g0 3 v):=fun E q=>⟨C.out _ _ q,HO.out _ _ _ _ q⟩
     clear x0 o0 o1 o2 o3
     go_region_held3 (fun E=>zS E B.bw 0 V 0∧zT E g0 0 k∧zT E g0 1 F∧zT E g0 2 hi∧zT E g0 3 v)
      (first|exact⟨u0,p0,p1,p2,p3⟩|assumption|go_keep|exact zF.out _ (by assumption))
      (first|(go_at_call 33;refine (N2.out _ _ zD.out).mono ?_;rintro e w2 ⟨rfl,q⟩))
     have x0:=C.out _ _ q;obtain⟨y0,y1,y2,y3⟩:=HO.out _ _ _ _ q;obtain⟨q0,q1,q2,q3,q4,q5,q6,q7,q8⟩:=O1.out _ _ _ q;have T2:=U q;clear q T1 zD u0 p0 p1 p2 p3 zF;have u2:=RV.out _ _ T2.out;go_upto_region 19 with (first|(go_at_call 84;refine (N3.out _).mono ?_;rintro e w3 ⟨rfl,Z⟩;have qq:=T2.out.below Z;have Q0:=C.out _ _ qq;obtain⟨z0,z1,z2,z3⟩:=HO.out _ _ _ _ qq;obtain⟨r0,r1,r2,r3,r4,r5,r6,r7,r8⟩:=O1.out _ _ _ qq;have T3:=U qq;clear qq Z))
     have T4:=T3;have Lt:=U T4.out.drew;have rR:Hid (∀ E,WK B V w0 (.obj g1 (.cells #[.bool lv,.bool bz,.bool wt,I a1,I a2,I a3,zu a4,zu a5,I ops] 42)::.obj g0 (.cells #[I k,I F,I hi,I v] 27)::ks) W E->zS E B.bw 0 V 0∧zB E g1 0 lv∧zB E g1 1 bz∧zB E g1 2 wt∧zT E g1 3 a1∧zT E g1 4 a2∧zT E g1 5 a3∧zV E g1 6 a4∧zV E g1 7 a5∧zT E g1 8 ops):=fun E q=>⟨C.out _ _ q,O1.out _ _ _ q⟩
     obtain⟨a0',b0',b1',b2',b3',Lu,Lv,Lx,LA,LB⟩:=rR.out _ T4.out
     go_region_held3 (fun E=>zS E B.bw 0 V 0∧zB E g1 0 lv∧zB E g1 1 bz∧zB E g1 2 wt∧zT E g1 3 a1∧zT E g1 4 a2∧zT E g1 5 a3∧zV E g1 6 a4∧zV E g1 7 a5∧zT E g1 8 ops)
      (first|exact⟨a0',b0',b1',b2',b3',Lu,Lv,Lx,LA,LB⟩|assumption|go_keep|exact rR.out _ (by assumption))
      (first|(go_at_call 10;refine (N1.out _ _ Lt.out).mono ?_;rintro e w6 ⟨rfl,qq⟩))
     have T6:=U qq;clear qq;go_wp2_with fail;go_ret;exact⟨rfl,[_,_],T6.out⟩
   . rw[f4] at N3
     clear f4;go_enter Tryz.func55,Tryz.ntmps55;go_upto_region 2 with (go_at_call 10;refine (N1.out _ _ T0.out).mono ?_;rintro e H ⟨rfl,q⟩;have T1:=U (q.alloc (.cells #[.bool lv,.bool true,.bool wt,I a1,I a2,I a3,zu a4,zu a5,I ops] 42));clear q T0)
     generalize H.alloc _=v1 at*;generalize H.heap.size=g1 at*;generalize w.heap.size=g0 at*;have zD:=U T1.out.drew;have u0:=C.out _ _ T1.out;obtain⟨p0,p1,p2,p3⟩:=HO.out _ _ _ _ T1.out;have zF:Hid (∀ E,WK B V w0 (.obj g1 (.cells #[.bool lv,.bool true,.bool wt,I a1,I a2,I a3,zu a4,zu a5,I ops] 42)::.obj g0 (.cells #[I k,I F,I hi,I v] 27)::ks) W E->zS E B.bw 0 V 0∧zT E g0 0 k∧zT E g0 1 F∧zT E g0 2 hi∧zT E g0 3 v):=fun E q=>⟨C.out _ _ q,HO.out _ _ _ _ q⟩
     clear x0 o0 o1 o2 o3
     go_region_held3 (fun E=>zS E B.bw 0 V 0∧zT E g0 0 k∧zT E g0 1 F∧zT E g0 2 hi∧zT E g0 3 v)
      (first|exact⟨u0,p0,p1,p2,p3⟩|assumption|go_keep|exact zF.out _ (by assumption))
      (first|(go_at_call 33;refine (N2.out _ _ zD.out).mono ?_;rintro e w2 ⟨rfl,q⟩))
     have x0:=C.out _ _ q;obtain⟨y0,y1,y2,y3⟩:=HO.out _ _ _ _ q;obtain⟨q0,q1,q2,q3,q4,q5,q6,q7,q8⟩:=O1.out _ _ _ q;have T2:=U q;clear q T1 zD u0 p0 p1 p2 p3 zF;have u2:=RV.out _ _ T2.out;go_upto_region 19 with (first|(go_at_call 84;refine (N3.out _).mono ?_;rintro e w3 ⟨rfl,Z⟩;have qq:=T2.out.below Z;have Q0:=C.out _ _ qq;obtain⟨z0,z1,z2,z3⟩:=HO.out _ _ _ _ qq;obtain⟨r0,r1,r2,r3,r4,r5,r6,r7,r8⟩:=O1.out _ _ _ qq;have T3:=U qq;clear qq Z))
     have T4:=T3;have Lt:=U T4.out.drew;have rR:Hid (∀ E,WK B V w0 (.obj g1 (.cells #[.bool lv,.bool true,.bool wt,I a1,I a2,I a3,zu a4,zu a5,I ops] 42)::.obj g0 (.cells #[I k,I F,I hi,I v] 27)::ks) W E->zS E B.bw 0 V 0∧zB E g1 0 lv∧zB E g1 1 true∧zB E g1 2 wt∧zT E g1 3 a1∧zT E g1 4 a2∧zT E g1 5 a3∧zV E g1 6 a4∧zV E g1 7 a5∧zT E g1 8 ops):=fun E q=>⟨C.out _ _ q,O1.out _ _ _ q⟩
     obtain⟨a0',b0',b1',b2',b3',Lu,Lv,Lx,LA,LB⟩:=rR.out _ T4.out
     go_region_held3 (fun E=>zS E B.bw 0 V 0∧zB E g1 0 lv∧zB E g1 1 true∧zB E g1 2 wt∧zT E g1 3 a1∧zT E g1 4 a2∧zT E g1 5 a3∧zV E g1 6 a4∧zV E g1 7 a5∧zT E g1 8 ops)
      (first|exact⟨a0',b0',b1',b2',b3',Lu,Lv,Lx,LA,LB⟩|assumption|go_keep|exact rR.out _ (by assumption))
      (first|(go_at_call 10;refine (N1.out _ _ Lt.out).mono ?_;rintro e w6 ⟨rfl,qq⟩))
     have T6:=U qq;clear qq;go_wp2_with fail;go_ret;exact⟨rfl,[_,_],T6.out⟩
   . rw[f4] at N3
     clear f4;go_enter Tryz.func55,Tryz.ntmps55;go_upto_region 2 with (go_at_call 10;refine (N1.out _ _ T0.out).mono ?_;rintro e H ⟨rfl,q⟩;have T1:=U (q.alloc (.cells #[.bool lv,.bool false,.bool wt,I a1,I a2,I a3,zu a4,zu a5,I ops] 42));clear q T0)
     generalize H.alloc _=v1 at*;generalize H.heap.size=g1 at*;generalize w.heap.size=g0 at*;have zD:=U T1.out.drew;have u0:=C.out _ _ T1.out;obtain⟨p0,p1,p2,p3⟩:=HO.out _ _ _ _ T1.out;have zF:Hid (∀ E,WK B V w0 (.obj g1 (.cells #[.bool lv,.bool false,.bool wt,I a1,I a2,I a3,zu a4,zu a5,I ops] 42)::.obj g0 (.cells #[I k,I F,I hi,I v] 27)::ks) W E->zS E B.bw 0 V 0∧zT E g0 0 k∧zT E g0 1 F∧zT E g0 2 hi∧zT E g0 3 v):=fun E q=>⟨C.out _ _ q,HO.out _ _ _ _ q⟩
     clear x0 o0 o1 o2 o3
     go_region_held3 (fun E=>zS E B.bw 0 V 0∧zT E g0 0 k∧zT E g0 1 F∧zT E g0 2 hi∧zT E g0 3 v)
      (first|exact⟨u0,p0,p1,p2,p3⟩|assumption|go_keep|exact zF.out _ (by assumption))
      (first|(go_at_call 33;refine (N2.out _ _ zD.out).mono ?_;rintro e w2 ⟨rfl,q⟩))
     have x0:=C.out _ _ q;obtain⟨y0,y1,y2,y3⟩:=HO.out _ _ _ _ q;obtain⟨q0,q1,q2,q3,q4,q5,q6,q7,q8⟩:=O1.out _ _ _ q;have T2:=U q;clear q T1 zD u0 p0 p1 p2 p3 zF;have u2:=RV.out _ _ T2.out;go_upto_region 19 with (first|(go_at_call 84;refine (N3.out _).mono ?_;rintro e w3 ⟨rfl,Z⟩;have qq:=T2.out.below Z;have Q0:=C.out _ _ qq;obtain⟨z0,z1,z2,z3⟩:=HO.out _ _ _ _ qq;obtain⟨r0,r1,r2,r3,r4,r5,r6,r7,r8⟩:=O1.out _ _ _ qq;have T3:=U qq;clear qq Z))
     have T4:=T3;have Lt:=U T4.out.drew;have rR:Hid (∀ E,WK B V w0 (.obj g1 (.cells #[.bool lv,.bool false,.bool wt,I a1,I a2,I a3,zu a4,zu a5,I ops] 42)::.obj g0 (.cells #[I k,I F,I hi,I v] 27)::ks) W E->zS E B.bw 0 V 0∧zB E g1 0 lv∧zB E g1 1 false∧zB E g1 2 wt∧zT E g1 3 a1∧zT E g1 4 a2∧zT E g1 5 a3∧zV E g1 6 a4∧zV E g1 7 a5∧zT E g1 8 ops):=fun E q=>⟨C.out _ _ q,O1.out _ _ _ q⟩
     obtain⟨a0',b0',b1',b2',b3',Lu,Lv,Lx,LA,LB⟩:=rR.out _ T4.out
     go_region_held3 (fun E=>zS E B.bw 0 V 0∧zB E g1 0 lv∧zB E g1 1 false∧zB E g1 2 wt∧zT E g1 3 a1∧zT E g1 4 a2∧zT E g1 5 a3∧zV E g1 6 a4∧zV E g1 7 a5∧zT E g1 8 ops)
      (first|exact⟨a0',b0',b1',b2',b3',Lu,Lv,Lx,LA,LB⟩|assumption|go_keep|exact rR.out _ (by assumption))
      (first|(go_at_call 10;refine (N1.out _ _ Lt.out).mono ?_;rintro e w6 ⟨rfl,qq⟩))
     have T6:=U qq;clear qq;go_wp2_with fail;go_ret;exact⟨rfl,[_,_],T6.out⟩
   . clear N3
     replace RV:Hid (∀ ks H,WK B V w0 ks W H->H.cell? (J B.bw (2+n))=zt 0):=RV;go_enter Tryz.func55,Tryz.ntmps55;go_upto_region 2 with (go_at_call 10;refine (N1.out _ _ T0.out).mono ?_;rintro e H ⟨rfl,q⟩;have T1:=U (q.alloc (.cells #[.bool lv,.bool bz,.bool wt,I a1,I a2,I a3,zu a4,zu a5,I ops] 42));clear q T0)
     generalize H.alloc _=v1 at*;generalize H.heap.size=g1 at*;generalize w.heap.size=g0 at*;have zD:=U T1.out.drew;have u0:=C.out _ _ T1.out;obtain⟨p0,p1,p2,p3⟩:=HO.out _ _ _ _ T1.out;have zF:Hid (∀ E,WK B V w0 (.obj g1 (.cells #[.bool lv,.bool bz,.bool wt,I a1,I a2,I a3,zu a4,zu a5,I ops] 42)::.obj g0 (.cells #[I k,I F,I hi,I v] 27)::ks) W E->zS E B.bw 0 V 0∧zT E g0 0 k∧zT E g0 1 F∧zT E g0 2 hi∧zT E g0 3 v):=fun E q=>⟨C.out _ _ q,HO.out _ _ _ _ q⟩
     clear x0 o0 o1 o2 o3
     go_region_held3 (fun E=>zS E B.bw 0 V 0∧zT E g0 0 k∧zT E g0 1 F∧zT E g0 2 hi∧zT E g0 3 v)
      (first|exact⟨u0,p0,p1,p2,p3⟩|assumption|go_keep|exact zF.out _ (by assumption))
      (first|(go_at_call 33;refine (N2.out _ _ zD.out).mono ?_;rintro e w2 ⟨rfl,q⟩))
     have x0:=C.out _ _ q;obtain⟨y0,y1,y2,y3⟩:=HO.out _ _ _ _ q;obtain⟨q0,q1,q2,q3,q4,q5,q6,q7,q8⟩:=O1.out _ _ _ q;have T2:=U q;clear q T1 zD u0 p0 p1 p2 p3 zF;have u2:=RV.out _ _ T2.out;go_upto_region 19 with (first|(go_at_call 84;refine (N3.out _).mono ?_;rintro e w3 ⟨rfl,Z⟩;have qq:=T2.out.below Z;have Q0:=C.out _ _ qq;obtain⟨z0,z1,z2,z3⟩:=HO.out _ _ _ _ qq;obtain⟨r0,r1,r2,r3,r4,r5,r6,r7,r8⟩:=O1.out _ _ _ qq;have T3:=U qq;clear qq Z))
     have T4:=T2;have Lt:=U T4.out.drew;have rR:Hid (∀ E,WK B V w0 (.obj g1 (.cells #[.bool lv,.bool bz,.bool wt,I a1,I a2,I a3,zu a4,zu a5,I ops] 42)::.obj g0 (.cells #[I k,I F,I hi,I v] 27)::ks) W E->zS E B.bw 0 V 0∧zB E g1 0 lv∧zB E g1 1 bz∧zB E g1 2 wt∧zT E g1 3 a1∧zT E g1 4 a2∧zT E g1 5 a3∧zV E g1 6 a4∧zV E g1 7 a5∧zT E g1 8 ops):=fun E q=>⟨C.out _ _ q,O1.out _ _ _ q⟩
     obtain⟨a0',b0',b1',b2',b3',Lu,Lv,Lx,LA,LB⟩:=rR.out _ T4.out
     go_region_held3 (fun E=>zS E B.bw 0 V 0∧zB E g1 0 lv∧zB E g1 1 bz∧zB E g1 2 wt∧zT E g1 3 a1∧zT E g1 4 a2∧zT E g1 5 a3∧zV E g1 6 a4∧zV E g1 7 a5∧zT E g1 8 ops)
      (first|exact⟨a0',b0',b1',b2',b3',Lu,Lv,Lx,LA,LB⟩|assumption|go_keep|exact rR.out _ (by assumption))
      (first|(go_at_call 10;refine (N1.out _ _ Lt.out).mono ?_;rintro e w6 ⟨rfl,qq⟩))
     have T6:=U qq;clear qq;go_wp2_with fail;go_ret;exact⟨rfl,[_,_],T6.out⟩
 . clear N3 hid
   go_enter Tryz.func55,Tryz.ntmps55;go_upto_region 2 with (go_at_call 10;refine (N1.out _ _ T0.out).mono ?_;rintro e H ⟨rfl,q⟩;have T1:=U (q.alloc (.cells #[.bool lv,.bool bz,.bool wt,I a1,I a2,I a3,zu a4,zu a5,I ops] 42));clear q T0)
   generalize H.alloc _=v1 at*;generalize H.heap.size=g1 at*;generalize w.heap.size=g0 at*;have zD:=U T1.out.drew;have u0:=C.out _ _ T1.out;obtain⟨p0,p1,p2,p3⟩:=HO.out _ _ _ _ T1.out;have zF:Hid (∀ E,WK B V w0 (.obj g1 (.cells #[.bool lv,.bool bz,.bool wt,I a1,I a2,I a3,zu a4,zu a5,I ops] 42)::.obj g0 (.cells #[I k,I F,I hi,I v] 27)::ks) W E->zS E B.bw 0 V 0∧zT E g0 0 k∧zT E g0 1 F∧zT E g0 2 hi∧zT E g0 3 v):=fun E q=>⟨C.out _ _ q,HO.out _ _ _ _ q⟩
   clear x0 o0 o1 o2 o3
   go_region_held3 (fun E=>zS E B.bw 0 V 0∧zT E g0 0 k∧zT E g0 1 F∧zT E g0 2 hi∧zT E g0 3 v)
    (first|exact⟨u0,p0,p1,p2,p3⟩|assumption|go_keep|exact zF.out _ (by assumption))
    (first|(go_at_call 33;refine (N2.out _ _ zD.out).mono ?_;rintro e w2 ⟨rfl,q⟩))
   have x0:=C.out _ _ q;obtain⟨y0,y1,y2,y3⟩:=HO.out _ _ _ _ q;obtain⟨q0,q1,q2,q3,q4,q5,q6,q7,q8⟩:=O1.out _ _ _ q;have T2:=U q;clear q T1 zD u0 p0 p1 p2 p3 zF;go_upto_region 19 with (first|(go_at_call 84;refine (N3.out _).mono ?_;rintro e w3 ⟨rfl,Z⟩;have qq:=T2.out.below Z;have Q0:=C.out _ _ qq;obtain⟨z0,z1,z2,z3⟩:=HO.out _ _ _ _ qq;obtain⟨r0,r1,r2,r3,r4,r5,r6,r7,r8⟩:=O1.out _ _ _ qq;have T3:=U qq;clear qq Z))
   have T4:=T2;have Lt:=U T4.out.drew;have rR:Hid (∀ E,WK B V w0 (.obj g1 (.cells #[.bool lv,.bool bz,.bool wt,I a1,I a2,I a3,zu a4,zu a5,I ops] 42)::.obj g0 (.cells #[I k,I F,I hi,I v] 27)::ks) W E->zS E B.bw 0 V 0∧zB E g1 0 lv∧zB E g1 1 bz∧zB E g1 2 wt∧zT E g1 3 a1∧zT E g1 4 a2∧zT E g1 5 a3∧zV E g1 6 a4∧zV E g1 7 a5∧zT E g1 8 ops):=fun E q=>⟨C.out _ _ q,O1.out _ _ _ q⟩
   obtain⟨a0',b0',b1',b2',b3',Lu,Lv,Lx,LA,LB⟩:=rR.out _ T4.out
   go_region_held3 (fun E=>zS E B.bw 0 V 0∧zB E g1 0 lv∧zB E g1 1 bz∧zB E g1 2 wt∧zT E g1 3 a1∧zT E g1 4 a2∧zT E g1 5 a3∧zV E g1 6 a4∧zV E g1 7 a5∧zT E g1 8 ops)
    (first|exact⟨a0',b0',b1',b2',b3',Lu,Lv,Lx,LA,LB⟩|assumption|go_keep|exact rR.out _ (by assumption))
    (first|(go_at_call 10;refine (N1.out _ _ Lt.out).mono ?_;rintro e w6 ⟨rfl,qq⟩))
   have T6:=U qq;clear qq;go_wp2_with fail;go_ret;exact⟨rfl,[_,_],T6.out⟩
 . clear N3 hid
   go_enter Tryz.func55,Tryz.ntmps55;go_upto_region 2 with (go_at_call 10;refine (N1.out _ _ T0.out).mono ?_;rintro e H ⟨rfl,q⟩;have T1:=U (q.alloc (.cells #[.bool lv,.bool bz,.bool wt,I a1,I a2,I a3,zu a4,zu a5,I ops] 42));clear q T0)
   generalize H.alloc _=v1 at*;generalize H.heap.size=g1 at*;generalize w.heap.size=g0 at*;have zD:=U T1.out.drew;have u0:=C.out _ _ T1.out;obtain⟨p0,p1,p2,p3⟩:=HO.out _ _ _ _ T1.out;have zF:Hid (∀ E,WK B V w0 (.obj g1 (.cells #[.bool lv,.bool bz,.bool wt,I a1,I a2,I a3,zu a4,zu a5,I ops] 42)::.obj g0 (.cells #[I k,I F,I hi,I v] 27)::ks) W E->zS E B.bw 0 V 0∧zT E g0 0 k∧zT E g0 1 F∧zT E g0 2 hi∧zT E g0 3 v):=fun E q=>⟨C.out _ _ q,HO.out _ _ _ _ q⟩
   clear x0 o0 o1 o2 o3
   go_region_held3 (fun E=>zS E B.bw 0 V 0∧zT E g0 0 k∧zT E g0 1 F∧zT E g0 2 hi∧zT E g0 3 v)
    (first|exact⟨u0,p0,p1,p2,p3⟩|assumption|go_keep|exact zF.out _ (by assumption))
    (first|(go_at_call 33;refine (N2.out _ _ zD.out).mono ?_;rintro e w2 ⟨rfl,q⟩))
   have x0:=C.out _ _ q;obtain⟨y0,y1,y2,y3⟩:=HO.out _ _ _ _ q;obtain⟨q0,q1,q2,q3,q4,q5,q6,q7,q8⟩:=O1.out _ _ _ q;have T2:=U q;clear q T1 zD u0 p0 p1 p2 p3 zF;go_upto_region 19 with (first|(go_at_call 84;refine (N3.out _).mono ?_;rintro e w3 ⟨rfl,Z⟩;have qq:=T2.out.below Z;have Q0:=C.out _ _ qq;obtain⟨z0,z1,z2,z3⟩:=HO.out _ _ _ _ qq;obtain⟨r0,r1,r2,r3,r4,r5,r6,r7,r8⟩:=O1.out _ _ _ qq;have T3:=U qq;clear qq Z))
   have T4:=T2;have Lt:=U T4.out.drew;have rR:Hid (∀ E,WK B V w0 (.obj g1 (.cells #[.bool lv,.bool bz,.bool wt,I a1,I a2,I a3,zu a4,zu a5,I ops] 42)::.obj g0 (.cells #[I k,I F,I hi,I v] 27)::ks) W E->zS E B.bw 0 V 0∧zB E g1 0 lv∧zB E g1 1 bz∧zB E g1 2 wt∧zT E g1 3 a1∧zT E g1 4 a2∧zT E g1 5 a3∧zV E g1 6 a4∧zV E g1 7 a5∧zT E g1 8 ops):=fun E q=>⟨C.out _ _ q,O1.out _ _ _ q⟩
   obtain⟨a0',b0',b1',b2',b3',Lu,Lv,Lx,LA,LB⟩:=rR.out _ T4.out
   go_region_held3 (fun E=>zS E B.bw 0 V 0∧zB E g1 0 lv∧zB E g1 1 bz∧zB E g1 2 wt∧zT E g1 3 a1∧zT E g1 4 a2∧zT E g1 5 a3∧zV E g1 6 a4∧zV E g1 7 a5∧zT E g1 8 ops)
    (first|exact⟨a0',b0',b1',b2',b3',Lu,Lv,Lx,LA,LB⟩|assumption|go_keep|exact rR.out _ (by assumption))
    (first|(go_at_call 10;refine (N1.out _ _ Lt.out).mono ?_;rintro e w6 ⟨rfl,qq⟩))
   have T6:=U qq;clear qq;go_wp2_with fail;go_ret;exact⟨rfl,[_,_],T6.out⟩
end Go.Proofs.YthicolbbmjfkfaaGreat.Em
