import Derived.Test.YthicolbbmjfkfaaGreatQf3
set_option linter.unusedVariables false
set_option linter.unusedSimpArgs false
set_option maxRecDepth 100000
set_option maxHeartbeats 1600000
namespace Go.Proofs.YthicolbbmjfkfaaGreat.Em
open Go.ChangeShapes Go.WideShapes Go.ChangeAt Go.RowKit En
variable {A:az} {D:St} {w:World}
theorem Cs:(Tryz.prog.info? 3).map (fun i=>(i.zero,i.size,i.bytes))=some (some (I 0),1,8):=by kernel_rfl
def oG (A A':az):Prop:=∃ L v,A'={A with L:=L,fH:=v}
def iy (D:St) (k:Nat):St:={D with free:=D.free++(List.range D.aG).reverse.take k}
theorem Ct (D:St) (k:Nat) (Y:k<D.aG):(iy D (k+1)).free=(iy D k).free++[D.aG - 1 - k]:=by
 unfold iy;simp only;rw[List.take_succ_eq_append_getElem (by simpa using Y),List.append_assoc];simp
theorem oH (h:aF A D w):w.ownsRow 0 3 1 A.fH D.free.length (D.free.map i64):=(h.mem.all .free).1
theorem yP (hR:aF A D w) (i:Nat):
 ∃ av jB,A.fH=.slice av D.free.length jB∧∀ v' w2,w2.ownsRow 0 3 1 v' (D.free.length+1) (D.free.map i64++[I i])->(w.alloc (.cells #[I i] 3)).grownBy w2 A.fH.ownBlock->(v'.ownBlock=A.fH.ownBlock∨∀ g,v'.ownBlock=some g->(w.alloc (.cells #[I i] 3)).heap.size<=g)->
  (∃ A',oG A A'∧aF A' {D with free:=D.free++[i]} (w2.setCell (J A.bp 2) v')∧Grow A.L w A'.L (w2.setCell (J A.bp 2) v'))∧w2.cell? (J A.bp 2)=some A.fH∧w2.frozen? (J A.bp 2)=false∧(∀ b u,A.L b=none->w.cell? (J b 0)=some u->w2.cell? (J b 0)=some u):=by
 obtain⟨av,jB,hv,_⟩:=Ow.bO (oH hR);refine⟨av,jB,hv,fun v' w2 q1 q2 q3=>?_⟩;obtain⟨r1,g1,_⟩:=dz hR #[I i] 3;obtain⟨p1,p2,p3,p4⟩:=r1.Qe (D.free++[i]) v' q2 (by simpa using q1) q3;refine⟨⟨_,⟨_,_,rfl⟩,p1,g1.trans p2⟩,p3,p4,fun b u hl hc=>?_⟩;have hc1:(w.alloc (.cells #[I i] 3)).cell? (J b 0)=some u:=by
  rw[World.cell?_alloc_past _ _ _ (World.block_lt_of_cell? w _ hc)];exact hc
 refine q2.cell hc1 fun e=>?_
 have:=(hR.mem.all .free).2 b e.symm;rw[hl] at this
 cases this
theorem Iu (hR:aF A D w) (b0:Nat) (B0:aP A.L w b0 (R A.bp 0)) (hn:D.free.length<100000):
 zk 161 #[R b0 0] w fun e E=>e=.returned (.tuple #[])∧∃ A',oG A A'∧aF A' (iy D D.aG) E∧Grow A.L w A'.L E:=by
 have c0:=B0.cell;have p0:w.cell? (J A.bp 0)=some (.slice (some (J A.bs 0)) D.aG D.aG):=hR.bP 0 rfl;have hsl:=hR.sl;have HR:=U hR;have HB:=U B0;have HN:=U (zA hn hsl);have hw1:IntKind.i64.wrap ((D.aG:Int) - 1)=(D.aG:Int) - 1:=by rw[je];omega
 clear hR B0 hn hsl;go_enter Tryz.func161,Tryz.ntmps161;go_wp2_with fail
 go_loopw [1] (fun i wr=>∃ k:Nat,k<=D.aG∧i=I ((D.aG:Int) - 1 - (k:Int))∧∃ A',oG A A'∧aF A' (iy D k) wr∧Grow A.L w A'.L wr) (fun i _=>(intOf i+1).toNat)
 case atStart=>exact⟨0,zz _,by simp,A,⟨_,_,rfl⟩,by simpa [iy] using HR.out,Grow.refl _ _⟩
 case round=>
  obtain⟨k,Y,rfl,A',⟨L',v1,rfl⟩,hr,hg⟩:=hrel
  by_cases hlt:k<D.aG
  . obtain⟨j,hj⟩:∃ j:Nat,j=D.aG - 1 - k:=⟨_,rfl⟩
    have ej:(D.aG:Int) - 1 - (k:Int)=(j:Int):=by omega
    rw[ej];have d1:(0:Int)<=(j:Int):=by omega
    have d2:IntKind.i64.wrap ((j:Int) - 1)=(j:Int) - 1:=by rw[je];have:=HN.out.2;omega
    have B1:=HB.out.grow hg;obtain⟨av,jB,hv,hstep⟩:=yP hr j;obtain⟨r1,g1,_⟩:=dz hr #[I j] 3;have c0:=B1.cell;have c1:=(B1.grow g1).cell;have hb0:L' b0=none:=by obtain⟨_,hx⟩:=B1;exact hx.1
    have HB0:=U (zA hb0 c0);clear hb0;have p2:wr.cell? (J A.bp 2)=some v1:=hr.bP 2 rfl;have p3:(wr.alloc (.cells #[I j] 3)).cell? (J A.bp 2)=some v1:=r1.bP 2 rfl;have aY:(wr.alloc (.cells #[I j] 3)).ownsRow 0 3 1 v1 (iy D k).free.length ((iy D k).free.map i64):=oH r1;have hv':v1=.slice av (iy D k).free.length jB:=hv;have hfl:(iy D k).free.length=D.free.length+k:=by unfold iy;simp;omega
    rw[hv'] at p2 p3 aY;have HST:=U hstep;have HV:=U hv';have HO:=U aY;have HL:=U (zA hlt (zA hj (zA ej (zA hfl hg))));have hlen:(iy D k).free.length<200000:=by have:=HN.out.1;have:=HN.out.2;omega
    clear hr hg B1 r1 g1 hstep hv hv' aY hfl hlt hj ej Y;generalize (iy D k).free.length=len at*;obtain⟨i0,hi,hz0,hz1,hz2⟩:=info_parts Cs;go_wp2_with fail
    go_region_law (first|(refine Ow.jH _ (.tmp 16) (.tmp 18) 36 rfl 0 _ i0 _ 1 8 Tryz.underlying36 hi hz0 hz1 hz2 rfl (by decide) (.slice av len jB) len ((iy D k).free.map i64) rfl HO.out (J wr.heap.size 0) 1 1 (by omega) [I j] rfl rfl (by intro j' u hu;exact Ow.iC wr [I j] _ _ rfl j' u hu) (by intro u hu;obtain rfl:=List.mem_singleton.1 hu;rfl) (by unfold maxLen;omega) (by omega) (zz _) ?_;intro v' w2 q1 q2 q3;obtain⟨r1,r2,r3,r4⟩:=HST.out v' w2 q1 (by show (wr.alloc _).grownBy w2 v1.ownBlock;rw[HV.out];exact rq q2) (by show v'.ownBlock=v1.ownBlock∨_;rw[HV.out];exact q3);obtain⟨a4,cap4,rfl,_⟩:=Ow.bO q1;have R1:=U r1;have ZP:=r4 b0 _ HB0.out.1 HB0.out.2;clear r1 r4 q1 q2 q3))
    all_goals
     go_wp2_with fail
     go_roundw
     case rel=>
      obtain⟨h1,h2,h3,h4,h5⟩:=HL.out;obtain⟨A2,⟨L2,v2,rfl⟩,q1,q2⟩:=R1.out;refine⟨k+1,by omega,by rw[show (D.aG:Int) - 1 - ((k+1:Nat):Int)=(j:Int) - 1 by omega],_,⟨L2,v2,rfl⟩,?_,h5.trans q2⟩;have e:iy D (k+1)={iy D k with free:=(iy D k).free++[j]}:=by
       have:=Ct D k h1;unfold iy at this ⊢;simp only at this ⊢;rw[this,h2]
      rw[e];exact q1
     case measure=>simp[intOf]<;>omega
  . obtain rfl:k=D.aG:=by omega
    have em:(D.aG:Int) - 1 - (D.aG:Int)=-1:=by omega
    rw[em];have HL:=U (zA hr hg);clear hr hg hlt Y em;go_wp2_with fail
    go_end0
    exact⟨rfl,_,⟨L',v1,rfl⟩,HL.out.1,HL.out.2⟩
structure qj (A A':az):Prop where
 ex:∃ L v m,A'={A with L:=L,fH:=v,mp:=m}
 mp:A'.mp=A.mp
theorem qj.refl (A:az):qj A A:=⟨⟨_,_,_,rfl⟩,rfl⟩
def Qh (A:az) (w:World) (bF:St) (v:Value):Ending->World->Prop:=fun e E=>e=.returned v∧∃ A',qj A A'∧aF A' bF E∧Grow A.L w A'.L E
theorem J7 (hR:aF A D w) (hm:A.mp=0) (hn:D.free.length<100000):
 zk 137 #[R A.bp 0] w (Qh A w D.list (.tuple #[])):=by
 obtain⟨r1,g1,f0⟩:=dz hR #[R A.bp 0] 102;have c0:=f0.cell 0 (v:=R A.bp 0) rfl
 by_cases hl:D.listed=true
 . have p4:(w.alloc (.cells #[R A.bp 0] 102)).cell? (J A.bp 4)=some (.int .u32 1):=r1.bP 4 (by simp[mq,ji,hl])
   have hd:=GK (J A.bp 4) (.func (.func 161) #[] #[R w.heap.size 0]) _ p4;have e:D.list=D:=by unfold St.list;rw[aW hl]
   rw[e];have HR:=U (zA r1 g1);have HD:=U hd;clear hR r1 g1 f0 hd e hl hn p4 hm;go_enter Tryz.func137,Tryz.ntmps137;go_wp2_with (go_at_call 146;refine HD.out.mono ?_;rintro e E ⟨rfl,rfl⟩)
   go_end0
   exact⟨rfl,A,qj.refl A,HR.out.1,HR.out.2⟩
 . have hl':D.listed=false:=by simpa using hl
   have p4:(w.alloc (.cells #[R A.bp 0] 102)).cell? (J A.bp 4)=some (.int .u32 0):=r1.bP 4 (by simp[mq,ji,hl']);have p5:(w.alloc (.cells #[R A.bp 0] 102)).cell? (J A.bp 5)=some (.int .i32 0):=r1.bP 5 (by simp[mq,ji,hm]);obtain⟨r2,g2⟩:=r1.Ci 1;have Z:=Iu r2 w.heap.size (f0.box.grow g2) hn;have hd:=Cq A.bp 4 161 #[R w.heap.size 0] (w.alloc (.cells #[R A.bp 0] 102))
    (fun E=>∃ A',oG {A with mp:=1} A'∧aF A' (iy D D.aG) E∧Grow A.L w A'.L E) p4 p5 (r1.vR 4) (r1.vR 5) (EO _)
    (Z.mono fun e E ⟨h1,A',h2,h3,h4⟩=>⟨h1,A',h2,h3,(g1.trans g2).trans h4⟩)
    (by
      rintro E ⟨A',⟨L,v,rfl⟩,h3,h4⟩
      exact⟨h3.bP 4 (by simp[mq,ji,iy,hl']),h3.bP 5 (by simp[mq,ji]),h3.vR 4,h3.vR 5⟩)
   have e:D.list={iy D D.aG with listed:=true}:=by
    have ht:(List.range D.aG).reverse.take D.aG=(List.range D.aG).reverse:=List.take_of_length_le (by simp);unfold St.list iy;rw[bu hl,ht]
   rw[e];have HD:=U hd;have HM:=U hm;clear hR r1 g1 f0 hd e hl hn p4 p5 r2 g2 Z hl' hm;go_enter Tryz.func137,Tryz.ntmps137;go_wp2_with (go_at_call 146;refine HD.out.mono ?_;rintro e E ⟨rfl,w2,⟨A',⟨L,v,rfl⟩,h3,h4⟩,rfl⟩)
   go_end0
   obtain⟨k1,q1⟩:=h3.drew.JR;obtain⟨k2,q2⟩:=k1.Ci 0;exact⟨rfl,_,⟨⟨L,v,0,rfl⟩,HM.out.symm⟩,k2,((h4.trans (Grow.drew _ _)).trans q1).trans q2⟩
theorem Cu (hR:aF A D w) (i:Nat) (hi:i<D.aG) (ht:(D.tags.getD i (0,false)).1<=65535):
 zk 158 #[R A.bp 0,I i] w fun e E=>e=.returned (zu ((D.jR i:Nat):Int))∧w=E:=by
 have p0:w.cell? (J A.bp 0)=some (.slice (some (J A.bs 0)) D.aG D.aG):=hR.bP 0 rfl;have t0:=(hR.tag hi).1;have t0':=t0;rw[Nat.mul_comm] at t0';have hsl:=hR.sl;have e:((D.jR i:Nat):Int)=((D.tags.getD i (0,false)).1:Int)*131072+((i:Int)+1):=by unfold St.jR rf;omega
 have Y:=Word.JW (i:Int) ((D.tags.getD i (0,false)).1:Int) (by omega) (by omega) (by omega) (by omega) w;rw[e];have b1:(i:Int)<(D.aG:Int):=by omega
 have b0:(0:Int)<=(i:Int):=by omega
 have HK:=U Y;clear hR hi ht hsl e Y;generalize (D.tags.getD i (0,false)).1=tg at*;generalize D.aG=n at*;go_enter Tryz.func158,Tryz.ntmps158;go_wp2_with (go_at_call 178;refine HK.out.mono ?_;rintro e E ⟨rfl,rfl⟩);go_ret;exact⟨rfl,rfl⟩
theorem Cv {w:World} {e:TypeId} {n:Nat} {v:Value} {xs:List Value} (h:w.ownsRow 0 e 1 v n xs) (hn:0<n):∃ g cap,v=.slice (some (J g 0)) n cap∧n<=cap∧cap<=9223372036854775807∧w.ownsRow 0 e 1 (.slice (some (J g 0)) (n - 1) cap) (n - 1) xs.dropLast∧(∀ j u,xs[j]? =some u->w.cell? (J g j)=some u):=by
 have hc:=fun g hg=>h.cells (g:=g) hg
 rcases h.2 with ⟨rfl,h0⟩|⟨g,cap,cur,rfl,Z,hg,hnc,hcm,hcs,htake⟩
 . omega
 . have hcm':=hcm
   unfold maxLen at hcm';refine⟨g,cap,rfl,hnc,hcm',⟨by rw[List.length_dropLast,h.1];omega,.inr ⟨g,cap,cur,rfl,Z,hg,by omega,hcm,hcs,?_⟩⟩,fun j u hj=>?_⟩
   . rw[<-htake,List.dropLast_eq_take,List.take_take]
     congr 1
     have:(cur.toList.take (n*1)).length=n:=by rw[htake,h.1];omega
     omega
   . have:=hc g rfl j u hj
     have hadd:((J g 0):Addr).add j=(J g j):=by unfold Addr.add;split<;>simp_all
     rw[hadd] at this;exact this
def Aw:Option Nat->Value
 |some l=>.tuple #[zu l,I 0]
 |none=>.tuple #[zu 0,I 15]
theorem yQ {D:St} (h:D.list.free.getLast? =none):D.take=(D.list,none):=by unfold St.take;simp only[h]
theorem yR {D:St} {i:Nat} (h:D.list.free.getLast? =some i):D.take=({D.list with free:=D.list.free.dropLast,tags:=D.list.tags.set i ((D.list.tags.getD i (0,false)).1,true)},some (D.list.jR i)):=by unfold St.take;simp only[h]
theorem J8 (hR:aF A D w) (hm:A.mp=0) (hn:D.free.length<100000) (hfree:∀ i∈D.list.free,i<D.aG) (htag:∀ i,i<D.aG->(D.tags.getD i (0,false)).1<=65535):
 zk 167 #[R A.bp 0] w fun e E=>
  e=.returned (Aw D.take.2)∧∃ A',qj A A'∧aF A' D.take.1 E∧Grow A.L w A'.L E:=by
 have hl:=J7 hR hm hn;have hsl:D.list.aG=D.aG:=by unfold St.list;split<;>rfl
 have J9:D.list.tags=D.tags:=by unfold St.list;split<;>rfl
 have hb1:D.list.free.length<200000:=by
  have:=hR.sl;unfold St.list
  split
  . omega
  . simp;omega
 have HL:=U hl;have HF:=U (zA hfree (zA htag (zA hsl J9)));have HS:=U hR.sl;clear hR hm hn hfree htag hl hsl J9
 cases hlast:D.list.free.getLast? with
 |none=>
  rw[yQ hlast];generalize D.list=aC at*;have hnil:aC.free=[]:=by simpa using hlast
  have HN:=U hnil;clear hlast hnil;go_enter Tryz.func167,Tryz.ntmps167;go_wp2_with (go_at_call 137;refine HL.out.mono ?_;rintro e H ⟨rfl,A1,⟨⟨L1,v1,m1,rfl⟩,hm1⟩,q1,q2⟩;have p2:H.cell? (J A.bp 2)=some v1:=q1.bP 2 rfl;have aY:=oH q1;rw[HN.out] at aY;obtain⟨av,jB,hv,_⟩:=Ow.bO aY;have hv':v1=.slice av 0 jB:=hv;rw[hv'] at p2;have HQ:=U (zA q1 (zA q2 hm1));clear q1 q2 aY hv hv' hm1)
  go_ret2
  exact⟨rfl,_,⟨⟨_,_,_,rfl⟩,HQ.out.2.2⟩,HQ.out.1,HQ.out.2.1⟩
 |some i=>
  rw[yR hlast];generalize D.list=aC at*;have hmem:i∈aC.free:=List.mem_of_getLast? hlast;have hne:aC.free≠[]:=by rintro h;rw[h] at hmem;cases hmem
  have hpos:0<aC.free.length:=List.length_pos_iff.2 hne;have hat:(aC.free.map i64)[aC.free.length - 1]? =zt i:=by
   rw[List.getElem?_map,<-List.getLast?_eq_getElem?,hlast];rfl
  have hdrop:(aC.free.map i64).dropLast=aC.free.dropLast.map i64:=List.map_dropLast.symm;have hdl:aC.free.dropLast.length=aC.free.length - 1:=by simp
  have hi:i<D.aG:=HF.out.1 i hmem;have WV:(aC.tags.getD i (0,false)).1<=65535:=by rw[HF.out.2.2.2];exact HF.out.2.1 i hi
  have hs1:aC.aG=D.aG:=HF.out.2.2.1;have FACT:Hid (∀ L1 v1 m1 H,aF {A with L:=L1,fH:=v1,mp:=m1} aC H->∃ g cap,v1=.slice (some (J g 0)) aC.free.length cap∧aC.free.length<=cap∧cap<=9223372036854775807∧H.cell? (J A.bp 2)=some (.slice (some (J g 0)) aC.free.length cap)∧H.frozen? (J A.bp 2)=false∧H.cell? ⟨g,aC.free.length - 1,none⟩=zt i∧H.cell? (J A.bp 0)=some (.slice (some (J A.bs 0)) D.aG D.aG)):=by
   intro L1 v1 m1 H q1;obtain⟨g,cap,e1,e2,e3,e4,e5⟩:=Cv (oH q1) hpos;have WX:v1=.slice (some (J g 0)) aC.free.length cap:=e1;refine⟨g,cap,WX,e2,e3,by rw[<-WX];exact q1.bP 2 rfl,q1.vR 2,e5 _ _ hat,by rw[<-hs1];exact q1.bP 0 rfl⟩
  have FIN:Hid (∀ L1 v1 m1 H g cap,aF {A with L:=L1,fH:=v1,mp:=m1} aC H->v1=.slice (some (J g 0)) aC.free.length cap->∀ w2,w2=H.setCell (J A.bp 2) (.slice (some (J g 0)) (aC.free.length - 1) cap)->aF {A with L:=L1,fH:=.slice (some (J g 0)) (aC.free.length - 1) cap,mp:=m1} {aC with free:=aC.free.dropLast} w2∧Grow L1 H L1 w2):=by
   rintro L1 v1 m1 H g cap q1 rfl w2 rfl;obtain⟨g',cap',e1,e2,e3,e4,e5⟩:=Cv (oH q1) hpos;simp only[Value.slice.injEq,Option.some.injEq,Addr.mk.injEq,and_true,true_and] at e1;obtain⟨rfl,rfl⟩:=e1;exact q1.Na aC.free.dropLast _ (by rw[hdl,<-hdrop];exact e4) rfl
  have hlk:({aC with free:=aC.free.dropLast,tags:=aC.tags.set i ((aC.tags.getD i (0,false)).1,true)}:St).jR i=aC.jR i∧(({aC with free:=aC.free.dropLast,tags:=aC.tags.set i ((aC.tags.getD i (0,false)).1,true)}:St).tags.getD i (0,false)).1=(aC.tags.getD i (0,false)).1:=by
   by_cases hlt:i<aC.tags.length
   . unfold St.jR
     simp only[kL _ _ _ _ _ hlt,aW];exact⟨trivial,trivial⟩
   . unfold St.jR
     simp[List.set_eq_of_length_le (by omega:aC.tags.length<=i)]
  have AFTER : Hid (∀ L1 m1 H g cap, aF { A with L := L1, fH := .slice (some (J g 0)) aC.free.length cap, mp := m1 } aC H ->
      (H.setCell (J A.bp 2) (.slice (some (J g 0)) (aC.free.length - 1) cap)).cell? ⟨A.bs,i*2+1,none⟩=some (.bool (aC.tags.getD i (0,false)).2)∧(H.setCell (J A.bp 2) (.slice (some (J g 0)) (aC.free.length - 1) cap)).frozen? ⟨A.bs,i*2+1,none⟩=false∧
      aF {A with L:=L1,fH:=.slice (some (J g 0)) (aC.free.length - 1) cap,mp:=m1} {aC with free:=aC.free.dropLast,tags:=aC.tags.set i ((aC.tags.getD i (0,false)).1,true)} ((H.setCell (J A.bp 2) (.slice (some (J g 0)) (aC.free.length - 1) cap)).setCell ⟨A.bs,i*2+1,none⟩ (.bool true))∧
      Grow L1 H L1 ((H.setCell (J A.bp 2) (.slice (some (J g 0)) (aC.free.length - 1) cap)).setCell ⟨A.bs,i*2+1,none⟩ (.bool true))∧
      zk 158 #[R A.bp 0,I i] ((H.setCell (J A.bp 2) (.slice (some (J g 0)) (aC.free.length - 1) cap)).setCell ⟨A.bs,i*2+1,none⟩ (.bool true)) fun e E=>e=.returned (zu ((aC.jR i:Nat):Int))∧((H.setCell (J A.bp 2) (.slice (some (J g 0)) (aC.free.length - 1) cap)).setCell ⟨A.bs,i*2+1,none⟩ (.bool true))=E):=by
   rw[show i*2+1=2*i+1 by omega];intro L1 m1 H g cap q1;obtain⟨r2,g2⟩:=FIN.out L1 _ m1 H g cap q1 rfl _ rfl;have hi':i<({aC with free:=aC.free.dropLast}:St).aG:=by show i<aC.aG;omega
   obtain⟨r3,g3⟩:=r2.Ch hi' true;have Cx:=Cu r3 i hi' (by rw[show (({aC with free:=aC.free.dropLast,tags:=aC.tags.set i ((aC.tags.getD i (0,false)).1,true)}:St).tags.getD i (0,false)).1=_ from hlk.2];exact WV);rw[show _=aC.jR i from hlk.1] at Cx;exact⟨(r2.tag hi').2,r2.Qc _,r3,g2.trans g3,Cx⟩
  have b1:(0:Int)<=(i:Int):=by omega
  have b2:(i:Int)<(D.aG:Int):=by omega
  have d1:((aC.free.length:Int)==0)=false:=by simp;omega
  have d2:((aC.free.length:Int)=0)=False:=by simp;omega
  have d3:(aC.free.length==0)=false:=by simp;omega
  have n1:(1:Int)<=(aC.free.length:Int):=by omega
  have n2:(aC.free.length:Int)<200000:=by omega
  have n3:((aC.free.length:Int) - 1).toNat=aC.free.length - 1:=by omega
  have n4:IntKind.i64.wrap ((aC.free.length:Int) - 1)=(aC.free.length:Int) - 1:=by rw[je];omega
  clear hlast hmem hne hat hdrop hdl hi WV hs1 hlk hb1 hpos FIN;generalize hlen:aC.free.length=n at*;have n5:(n:Int) - 1<(n:Int):=by omega
  have n6:(0:Int)<=(n:Int) - 1:=by omega
  clear hlen n2;go_enter Tryz.func167,Tryz.ntmps167;go_wp2_with (first|(go_at_call 137;refine HL.out.mono ?_;rintro e H ⟨rfl,A1,⟨⟨L1,v1,m1,rfl⟩,hm1⟩,q1,q2⟩;obtain⟨g,cap,rfl,f1,f2,p2,z2,pc,p0⟩:=FACT.out L1 v1 m1 H q1;obtain⟨t1,z1,r3,g3,Cx⟩:=AFTER.out L1 m1 H g cap q1;have XT:=U Cx;have HQ:=U (zA r3 (zA (q2.trans g3) hm1));clear q1 q2 r3 g3 hm1 Cx)|(go_at_call 158;refine XT.out.mono ?_;rintro e E ⟨rfl,rfl⟩))
  go_ret2
  exact⟨rfl,_,⟨⟨_,_,_,rfl⟩,HQ.out.2.2⟩,HQ.out.1,HQ.out.2.1⟩
structure VL (D:St) (l:Nat):Prop where
 lo:1<=l % 131072
 hi:l % 131072<=D.aG
 u:l<18446744073709551616
theorem iO {D:St} {l:Nat} (h:VL D l):ag l<D.aG:=by have:=h.lo;have:=h.hi;unfold ag;omega
theorem R9 (hR:aF A D w) (s:Nat) (t:bL) (ht:D.ai.getD s none=some t) (F G b0 b1 b2 b3:Nat)
 (B0:aP A.L w b0 (R (A.bt s) 0)) (B1:aP A.L w b1 (I F)) (B2:aP A.L w b2 (R A.V 0)) (B3:aP A.L w b3 (R (A.bc s) 0))
 (at_:Nat) (hl:G=0∨VL D G) (hn:t.reads.length<1000000):
 zk 115 #[zu G,R b0 0,R b1 0,R b2 0,R b3 0] w (bG A w s (D.thn s ⟨F,at_,.get⟩ G)):=by
 have c0:=B0.cell;have c1:=B1.cell;have c2:=B2.cell;have c3:=B3.cell
 by_cases h0:G=0
 . have hr:=mW hR s t ht F G false hn
   have e0:(G !=0)=false:=by simpa using h0
   have e1:D.thn s ⟨F,at_,.get⟩ G=(D.read s F G false,.fin {e:=11}):=by simp only[St.thn,e0,aW h0]
   rw[e1];have d1:((G:Int)==0)=true:=by simpa using h0
   have d2:((G:Int) !=0)=false:=by simpa using h0
   have d3:((G:Int)=0)=True:=by simpa using h0
   have HR:=U hr;have HB:=U (zA B2 B3);clear hR ht hl hn hr e1 e0 h0 B0 B1 B2 B3;go_enter Tryz.func115,Tryz.ntmps115;go_wp2_with (first|(go_at_call 116;refine HR.out.mono ?_;rintro e H ⟨rfl,A1,q1,q2,q3,q4,q5⟩;have c2:=(HB.out.1.grow q2).cell;have c3:=(HB.out.2.grow q2).cell;have HE:=U (jm q1 s {e:=11} 11 0 0 0 (.slice none 0 0) rfl (.inr ⟨rfl,rfl⟩));rw[q3.V,q3.bc] at HE;have HQ:=U (zA q2 q3);clear q1 q2 q3 q4 q5)|(go_at_call 113;refine HE.out.mono ?_;rintro e w2 ⟨A2,v,rfl,p1,p2,p3,p4⟩));go_ret;exact⟨A2,v,rfl,p1,HQ.out.1.trans p2,HQ.out.2.trans p3,p4⟩
 . have hv:=hl.resolve_left h0
   have hr:=mW hR s t ht F G true hn;have e0:(G !=0)=true:=by simpa using h0
   have e1:D.thn s ⟨F,at_,.get⟩ G=(D.read s F G true,.fin {value:=D.valueOf G}):=by
    simp only[St.thn,e0,bu h0];rfl
   rw[e1];have d1:((G:Int)==0)=false:=by simpa using h0
   have d2:((G:Int) !=0)=true:=by simpa using h0
   have d3:((G:Int)=0)=False:=by simpa using h0
   have HR:=U hr;have HB:=U (zA B2 (zA B3 hv));have HT:=U ht;have H0:=U hR.sl;clear hR ht hl hn hr e1 B0 B1 B2 B3 hv e0 h0;go_enter Tryz.func115,Tryz.ntmps115;go_wp2_with (go_at_call 116;refine HR.out.mono ?_;rintro e H ⟨rfl,A1,q1,q2,q3,q4,q5⟩);obtain⟨B2,B3,hv⟩:=HB.out;have c2:=(B2.grow q2).cell;have c3:=(B3.grow q2).cell;have hd:=(l9 q1.drew G hv.lo hv.hi hv.u).mono fun e E h=>(⟨h.1,h.2.symm⟩:_∧E=H.drew)
   have hval:=(q1.drew.val (show ag G<(D.read s F G true).aG from iO (D:=D) hv)).2;have he:=jm q1.drew s {value:=D.valueOf G} 0 (D.valueOf G:Int) 0 0 (.slice none 0 0) rfl (.inr ⟨rfl,rfl⟩);rw[q3.V,q3.bc] at he;rw[q3.V] at hd;have HE:=U he;have HD:=U hd;have HQ:=U (zA q2 q3);have e3:(((D.read s F G true).values.getD (ag G) (0,0)).2:Int)=(D.valueOf G:Int):=rfl;rw[e3] at hval;clear he q1 q2 q3 q4 q5 B2 B3 hd hv e3;generalize A1.bv=bv at*;go_wp2_with fail;refine wp_region_still_tail 9 (by kernel_rfl) (by kernel_rfl) ?_;simp only[jZ,j6,kg,kr]
   repeat still_step
   still_call HD.out
   repeat still_step
   refine wpStill_nil ?_;change wpList _ _ _ _ _ H.drew;have HG:Hid (Grow A1.L H A1.L H.drew):=Grow.drew _ _;generalize H.drew=w3 at*;go_wp2_with (go_at_call 113;refine HE.out.mono ?_;rintro e w2 ⟨A2,v,rfl,p1,p2,p3,p4⟩);go_ret;exact⟨A2,v,rfl,p1,(HQ.out.1.trans HG.out).trans p2,HQ.out.2.trans p3,p4⟩
theorem Nq (hR:aF A D w) (s:Nat):
 zk 131 #[R A.V 0,R (A.bt s) 0,R (A.bc s) 0,zu 0] w (bG A w s (D,.fresh 0)):=yM hR s 0
theorem Ka (hR:aF A D w) (s:Nat) (t:bL) (ht:D.ai.getD s none=some t) (c:dY) (hc:D.calls.getD s none=some c) (F G b0 b1 b2 b3:Nat) (Y:c.op.F=F)
 (B0:aP A.L w b0 (R (A.bc s) 0)) (B1:aP A.L w b1 (R (A.bt s) 0)) (B2:aP A.L w b2 (I F)) (B3:aP A.L w b3 (R A.V 0))
 (at_:Nat) (hn:t.reads.length<1000000):
 zk 130 #[zu G,R b0 0,R b1 0,R b2 0,R b3 0] w (bG A w s (D.thn s ⟨F,at_,.change⟩ G)):=by
 have c0:=B0.cell;have c1:=B1.cell;have c2:=B2.cell;have c3:=B3.cell;have k0:w.cell? (J (A.bc s) 0)=zt c.op.kind:=hR.call hc 0 rfl;have hcg:=bC hc;have hr:=mW hR s t ht F G false hn;have HR:=U hr;have HB:=U (zA B0 (zA B1 (zA B2 B3)));have HX:=U hR;have e0:D.thn s ⟨F,at_,.change⟩ G=if G≠0∧c.op.kind=2 then (D.read s F G false,.fin {e:=12}) else if G=0∧c.op.kind≠2 then (D.read s F G false,.fin {e:=11}) else if G=0 then (D,.fresh 0) else (D,.own G):=by
  simp only[St.thn,hcg,Y]
 rw[e0];clear e0 hR ht hn hr B0 B1 B2 B3 hc hcg Y;generalize c.op.kind=kd at*
 by_cases h0:G=0
 . by_cases h2:kd=2
   . rw[bu (by omega),bu (by omega),aW h0]
     have d1:((G:Int)==0)=true:=by simpa using h0
     have d2:((G:Int) !=0)=false:=by simpa using h0
     have d3:((G:Int)=0)=True:=by simpa using h0
     have f1:((kd:Int)==2)=true:=by simp;omega
     have f2:((kd:Int) !=2)=false:=by simp;omega
     have f3:((kd:Int)=2)=True:=by simp;omega
     clear h0 h2;go_enter Tryz.func130,Tryz.ntmps130;go_wp2_with (go_at_call 131;refine (Nq HX.out s).mono ?_;rintro e w2 ⟨A2,v,rfl,p1,p2,p3,p4⟩);go_ret;exact⟨A2,v,rfl,p1,p2,p3,p4⟩
   . rw[bu (by omega),aW (by omega)]
     have d1:((G:Int)==0)=true:=by simpa using h0
     have d2:((G:Int) !=0)=false:=by simpa using h0
     have d3:((G:Int)=0)=True:=by simpa using h0
     have f1:((kd:Int)==2)=false:=by simp;omega
     have f2:((kd:Int) !=2)=true:=by simp;omega
     have f3:((kd:Int)=2)=False:=by simp;omega
     clear h0 h2;go_enter Tryz.func130,Tryz.ntmps130;go_wp2_with (first|(go_at_call 116;refine HR.out.mono ?_;rintro e H ⟨rfl,A1,q1,q2,q3,q4,q5⟩;have c0:=(HB.out.1.grow q2).cell;have c3:=(HB.out.2.2.2.grow q2).cell;have HE:=U (jm q1 s {e:=11} 11 0 0 0 (.slice none 0 0) rfl (.inr ⟨rfl,rfl⟩));rw[q3.V,q3.bc] at HE;have HQ:=U (zA q2 q3);clear q1 q2 q3 q4 q5)|(go_at_call 113;refine HE.out.mono ?_;rintro e w2 ⟨A2,v,rfl,p1,p2,p3,p4⟩));go_ret;exact⟨A2,v,rfl,p1,HQ.out.1.trans p2,HQ.out.2.trans p3,p4⟩
 . by_cases h2:kd=2
   . rw[aW (by omega)]
     have d1:((G:Int)==0)=false:=by simpa using h0
     have d2:((G:Int) !=0)=true:=by simpa using h0
     have d3:((G:Int)=0)=False:=by simpa using h0
     have f1:((kd:Int)==2)=true:=by simp;omega
     have f2:((kd:Int) !=2)=false:=by simp;omega
     have f3:((kd:Int)=2)=True:=by simp;omega
     clear h0 h2;go_enter Tryz.func130,Tryz.ntmps130;go_wp2_with (first|(go_at_call 116;refine HR.out.mono ?_;rintro e H ⟨rfl,A1,q1,q2,q3,q4,q5⟩;have c0:=(HB.out.1.grow q2).cell;have c3:=(HB.out.2.2.2.grow q2).cell;have HE:=U (jm q1 s {e:=12} 12 0 0 0 (.slice none 0 0) rfl (.inr ⟨rfl,rfl⟩));rw[q3.V,q3.bc] at HE;have HQ:=U (zA q2 q3);clear q1 q2 q3 q4 q5)|(go_at_call 113;refine HE.out.mono ?_;rintro e w2 ⟨A2,v,rfl,p1,p2,p3,p4⟩));go_ret;exact⟨A2,v,rfl,p1,HQ.out.1.trans p2,HQ.out.2.trans p3,p4⟩
   . rw[bu (by omega),bu (by omega),bu h0]
     have d1:((G:Int)==0)=false:=by simpa using h0
     have d2:((G:Int) !=0)=true:=by simpa using h0
     have d3:((G:Int)=0)=False:=by simpa using h0
     have f1:((kd:Int)==2)=false:=by simp;omega
     have f2:((kd:Int) !=2)=true:=by simp;omega
     have f3:((kd:Int)=2)=False:=by simp;omega
     clear h0 h2;go_enter Tryz.func130,Tryz.ntmps130;go_wp2_with (go_at_call 132;refine (GH HX.out s G).mono ?_;rintro e w2 ⟨A2,v,rfl,p1,p2,p3,p4⟩);go_ret;exact⟨A2,v,rfl,p1,p2,p3,p4⟩
theorem eD (l:Nat) (k:Int) (n:Nat) (Y:(n:Int)=k) (h1:1<=l % 131072) (h2:l % 131072<=256) (hl:l<18446744073709551616) (hn:n<=2) (w:World):
 zk 85 #[zu l,I k] w fun e E=>e=.returned (I ((af l n:Nat):Int))∧w=E:=by subst Y;exact Cj l n h1 h2 hl hn w
theorem dD (hR:aF A D w) {l k:Nat} (h1:1<=l % 131072) (h2:l % 131072<=D.aG) (Y:k<=2):af l k<D.words.length:=by rw[hR.nw];unfold af ag;omega
theorem Nr (hR:aF A D w) (s:Nat) (t:bL) (ht:D.ai.getD s none=some t) (hu:dR) (G b0 b1:Nat) (B0:ic (kp A D s) A.L w b0 hu) (B1:aP A.L w b1 (zu G))
 (h1:1<=G % 131072) (h2:G % 131072<=D.aG) (hl:G<18446744073709551616) (hx:D.word (af G 0)<18446744073709551616) (hc:D.count<4000000000000000000):
 zk 182 #[R b0 0,R b1 0] w (lF A w s (D.run s (.visit hu G))):=by
 have hsl:=hR.sl;obtain⟨bh,X0,vt,TT,fh,hth⟩:=B0;have c0:=X0.cell;have c1:=B1.cell;have h0:w.cell? (J bh 0)=zs A.V 0:=fh.cell 0 rfl;have e2:=hR.z2;have HK:Hid (∀ E,Kp A w E->zS E b0 0 bh 0∧zV E b1 0 G∧zS E bh 0 A.V 0∧zS E A.V 2 A.ba 0):=by
  obtain⟨_,x0⟩:=X0;obtain⟨_,x1⟩:=B1;exact fun E k=>⟨k.fix _ _ _ x0.1 c0,k.fix _ _ _ x1.1 c1,k.fix _ _ _ fh.1 h0,k.ea⟩
 have HS:=U (eD G 0 0 rfl h1 (by omega) hl (by omega));have HL:=U (iN hR.drew (af G 0) (dD hR h1 h2 (by omega)) hc);have HG:=zG A.L w;have hh0:dS (kp A D s) A.L w bh hu:=⟨vt,TT,fh,hth⟩
 have HB:Hid (∀ H,aF A D.tick H->Grow A.L w A.L H->zk 183 #[R bh 0,zu G,zu (D.word (af G 0):Int)] H (bG A H s (D.tick,D.kK s hu G (D.word (af G 0))))):=
  fun H r g=>Im r s t ht bh hu (hh0.grow g) G _ hx
 clear hR ht X0 B1 fh hth h1 h2 hl hx hc hsl hh0;go_enter Tryz.func182,Tryz.ntmps182;go_wp2_with fail
 go_region_held3 (fun E=>zS E b0 0 bh 0∧zV E b1 0 G∧zS E bh 0 A.V 0∧zS E A.V 2 A.ba 0)
  (first|exact⟨c0,c1,h0,e2⟩|assumption|exact HK.out _ (Kp.of (by assumption) (by assumption) (by assumption)))
  (first|(go_at_call 85;refine (HS.out _).mono ?_;rintro e E ⟨rfl,rfl⟩)|(go_at_call 42;refine HL.out.mono ?_;rintro e H ⟨rfl,q1,q2⟩;have q4:=HG.out.trans q2;have q3:=bU.refl A s;clear q2)|(go_at_call 183;refine (HB.out _ (by assumption) (by assumption)).mono ?_;rintro e w2 ⟨A',v,rfl,p1,p2,p3,p4⟩;have p5:=(‹Grow A.L w A.L _›).trans p2))
 go_wp2_with fail;go_ret;exact⟨A',_,rfl,p1,p5,p3,p4⟩
theorem flip {P:Program} {f:FuncId} {args:Array Value} {w:World} {v:Value} (h:Calls P f args w fun e E=>e=.returned v∧w=E):Calls P f args w fun e E=>e=.returned v∧E=w:=h.mono fun _ _ h=>⟨h.1,h.2.symm⟩
theorem qV (w:World):zk 127 #[] w fun e E=>e=.returned (zu ((ever:Nat):Int))∧E=w:=flip (Word.qd w)
theorem Ns (hR:aF A D w) (s:Nat) (t:bL) (ht:D.ai.getD s none=some t) (b0 b1 b2 b3 b4 b5:Nat) (x:Bool) (G head:Nat)
 (B0:aP A.L w b0 (R A.V 0)) (B1:aP A.L w b1 (zu G)) (B2:aP A.L w b2 (R (A.bt s) 0)) (B3:aP A.L w b3 ((kp A D s).xo x)) (B4:aP A.L w b4 (R (A.bc s) 0)) (B5:jX A.L w b5 x head)
 (hc:D.count<4000000000000000000) (hv:VL D G) (h1:1<=t.id) (h2:t.id<=65535):
 zk 168 #[R b0 0,R b1 0,R b2 0,R b3 0,R b4 0,R b5 0] w (lF A w s (D.run s (.fJ x G head))):=by
 have c0:=B0.cell;have c1:=B1.cell;have c2:=B2.cell;have c3:=B3.cell;have c4:=B4.cell;have e2:=hR.z2;have hsl:=hR.sl;have G0:Grow A.L w A.L w.drew:=Grow.drew _ _;have HS:=U (flip (eD G 0 0 rfl hv.lo (by have:=hv.hi;omega) hv.u (by omega) w.drew));have HM:=U (flip (qi hR.drew s t ht h1 h2));have HL:=U (gy hR.drew (af G 0) (mine t) (dD hR hv.lo hv.hi (by omega)) hc);have aU:D.run s (.fJ x G head)=(D.put (af G 0) (mine t),some (.eU x G head)):=by simp only[St.run,cK ht]
 rw[aU];clear aU ht hv h1 h2;have HG:=U G0;have HB:=U ((zA B0 (zA B1 (zA B2 (zA B3 (zA B4 B5))))));clear hR hsl hc G0 B0 B1 B2 B3 B4 B5;go_enter Tryz.func168,Tryz.ntmps168;go_wp2_with fail;refine wp_region_still_tail 8 (by kernel_rfl) (by kernel_rfl) ?_;simp only[jZ,j6,kg,kr]
 repeat still_step
 still_call HS.out
 repeat still_step
 still_call HM.out
 repeat still_step
 refine wpStill_nil ?_;change wpList _ _ _ _ _ w.drew;generalize w.drew=wd at*;go_wp2_with (go_at_call 47;refine HL.out.mono ?_;rintro e H ⟨rfl,q1,q2⟩);go_ret;obtain⟨B0,B1,B2,B3,B4,B5⟩:=HB.out;exact⟨A,_,rfl,q1,HG.out.trans q2,bU.refl _ _,_,_,_,_,_,_,rfl,B0.grow (HG.out.trans q2),B1.grow (HG.out.trans q2),B3.grow (HG.out.trans q2),B2.grow (HG.out.trans q2),B4.grow (HG.out.trans q2),B5.grow (HG.out.trans q2)⟩
theorem Qi (hR:aF A D w) (s:Nat) (t:bL) (ht:D.ai.getD s none=some t) (b0 b1 b2 b3 b4:Nat) (G head:Nat)
 (B0:aP A.L w b0 (R A.V 0)) (B1:aP A.L w b1 (zu G)) (B2:aP A.L w b2 (zu head)) (B3:aP A.L w b3 (R (A.bc s) 0)) (B4:aP A.L w b4 (R (A.bt s) 0))
 (hc:D.count<4000000000000000000) (hv:VL D G):
 zk 190 #[R b0 0,R b1 0,R b2 0,R b3 0,R b4 0] w (lF A w s (D.run s (.push G head))):=by
 have c0:=B0.cell;have c1:=B1.cell;have c2:=B2.cell;have c3:=B3.cell;have c4:=B4.cell;have e2:=hR.z2;have hsl:=hR.sl;have G0:Grow A.L w A.L w.drew:=Grow.drew _ _;have HS:=U (flip (eD G 2 2 rfl hv.lo (by have:=hv.hi;omega) hv.u (by omega) w.drew));have HL:=U (gy hR.drew (af G 2) head (dD hR hv.lo hv.hi (by omega)) hc);have aU:D.run s (.push G head)=(D.put (af G 2) head,some (.dV G head)):=rfl;rw[aU];clear aU ht hv;have HG:=U G0;have HB:=U ((zA B0 (zA B1 (zA B2 (zA B3 B4)))));clear hR hsl hc G0 B0 B1 B2 B3 B4;go_enter Tryz.func190,Tryz.ntmps190;go_wp2_with fail;refine wp_region_still_tail 7 (by kernel_rfl) (by kernel_rfl) ?_;simp only[jZ,j6,kg,kr]
 repeat still_step
 still_call HS.out
 repeat still_step
 refine wpStill_nil ?_;change wpList _ _ _ _ _ w.drew;generalize w.drew=wd at*;go_wp2_with (go_at_call 47;refine HL.out.mono ?_;rintro e H ⟨rfl,q1,q2⟩);go_ret;obtain⟨B0,B1,B2,B3,B4⟩:=HB.out;exact⟨A,_,rfl,q1,HG.out.trans q2,bU.refl _ _,_,_,_,_,_,rfl,B0.grow (HG.out.trans q2),B3.grow (HG.out.trans q2),B2.grow (HG.out.trans q2),B1.grow (HG.out.trans q2),B4.grow (HG.out.trans q2)⟩
theorem Nt (hR:aF A D w) (s:Nat) (t:bL) (ht:D.ai.getD s none=some t) (b0 b1 b2 b3 b4 b5:Nat) (G head:Nat)
 (B0:aP A.L w b0 (R A.V 0)) (B1:aP A.L w b1 (zu G)) (B2:aP A.L w b2 (zu head)) (B3:aP A.L w b3 (R (A.bc s) 0)) (B4:aP A.L w b4 (R (A.bt s) 0)) (B5:aP A.L w b5 ((kp A D s).xo true))
 (hc:D.count<4000000000000000000) (hv:VL D G):
 zk 193 #[R b0 0,R b1 0,R b2 0,R b3 0,R b4 0,R b5 0] w (lF A w s (D.run s (.iB G head))):=by
 have c0:=B0.cell;have c1:=B1.cell;have c2:=B2.cell;have c3:=B3.cell;have c4:=B4.cell;have c5:=B5.cell;have e2:=hR.z2;have hsl:=hR.sl;have G0:Grow A.L w A.L w.drew:=Grow.drew _ _;have HS:=U (flip (eD G 2 2 rfl hv.lo (by have:=hv.hi;omega) hv.u (by omega) w.drew));have HL:=U (gy hR.drew (af G 2) head (dD hR hv.lo hv.hi (by omega)) hc);have aU:D.run s (.iB G head)=(D.put (af G 2) head,some (.eu G head)):=rfl;rw[aU];clear aU ht hv;have HG:=U G0;have HB:=U ((zA B0 (zA B1 (zA B2 (zA B3 (zA B4 B5))))));clear hR hsl hc G0 B0 B1 B2 B3 B4 B5;go_enter Tryz.func193,Tryz.ntmps193;go_wp2_with fail;refine wp_region_still_tail 7 (by kernel_rfl) (by kernel_rfl) ?_;simp only[jZ,j6,kg,kr]
 repeat still_step
 still_call HS.out
 repeat still_step
 refine wpStill_nil ?_;change wpList _ _ _ _ _ w.drew;generalize w.drew=wd at*;go_wp2_with (go_at_call 47;refine HL.out.mono ?_;rintro e H ⟨rfl,q1,q2⟩);go_ret;obtain⟨B0,B1,B2,B3,B4,B5⟩:=HB.out;exact⟨A,_,rfl,q1,HG.out.trans q2,bU.refl _ _,_,_,_,_,_,_,rfl,B0.grow (HG.out.trans q2),B3.grow (HG.out.trans q2),B2.grow (HG.out.trans q2),B1.grow (HG.out.trans q2),B4.grow (HG.out.trans q2),B5.grow (HG.out.trans q2)⟩
theorem Grow.nZ {L L':eH} {w E:World} (g:Grow L w L' E) {a:Addr} (h:w.heap.size<=a.block) (v:Value):Grow L w L' (E.setCell a v):=
 ⟨g.os,g.tape,g.output,by simpa [World.setCell] using g.size,fun b Z hl=>(Below.heap_setCell _ _ _ _ (by omega)).trans (g.block b Z hl),g.lab,fun b Z hl=>(Below.heap_setCell _ _ _ _ (by omega)).trans (g.keep b Z hl)⟩
theorem aF.nZ {A A1:az} {D aC:St} {w H:World} (hR:aF A D w) (h1:aF A1 aC H) (g:Grow A.L w A1.L H) (ht:aC.aQ=D.aQ) (hcs:A1.gV=A.gV) {a:Addr} (Z:w.heap.size<=a.block) (hl:A1.L a.block=none) (v:Value):
 aF A1 aC (H.setCell a v)∧Grow A.L w A1.L (H.setCell a v):=
 ⟨⟨h1.mem.MV hl v,by rw[ht,hcs];exact hR.ev.grow (g.nZ Z v),h1.sl,h1.nw,h1.nt,h1.nv,h1.n8,h1.nc⟩,g.nZ Z v⟩
theorem Fix.setOther {L:eH} {w:World} {b:Nat} {o:Obj} (h:Fix L w b o) {a:Addr} (hne:b≠a.block) (v:Value):Fix L (w.setCell a v) b o:=⟨h.1,(Below.heap_setCell _ _ _ _ hne).trans h.2⟩
theorem Fix.vI {L:eH} {w:World} {b:Nat} {u:Value} {T:TypeId} (h:Fix L w b (.cells #[u] T)) (v:Value):Fix L (w.setCell (J b 0) v) b (.cells #[v] T):=by
 refine⟨h.1,?_⟩;have:=h.2;simp only[World.setCell,Array.getElem?_modify,this];simp
theorem Fix.frozen {L:eH} {w:World} {b:Nat} {cs:Array Value} {T:TypeId} (h:Fix L w b (.cells cs T)) (i:Nat):w.frozen? (J b i)=false:=by
 unfold World.frozen?
 simp only[h.2];simp
theorem Nu {D:St} {l:Nat} (hfree:∀ i∈D.list.free,i<D.aG) (hs:D.aG<=256) (htag:∀ i,i<D.aG->(D.tags.getD i (0,false)).1<=65535) (h:D.take.2=some l):VL D.take.1 l∧D.take.1.aG=D.aG:=by
 have hsl:D.list.aG=D.aG:=by unfold St.list;split<;>rfl
 have J9:D.list.tags=D.tags:=by unfold St.list;split<;>rfl
 cases hlast:D.list.free.getLast? with
 |none=>rw[yQ hlast] at h;cases h
 |some i=>
  rw[yR hlast] at h ⊢;have hi:=hfree i (List.mem_of_getLast? hlast);have ht:=htag i hi;simp only[Option.some.injEq] at h;subst h;refine⟨⟨?_,?_,?_⟩,hsl⟩
  all_goals
   unfold St.jR rf;rw[J9]
   first|omega|(dsimp only;omega)
def _root_.Go.Proofs.YthicolbbmjfkfaaGreat.En.St.lay (D:St) (s l:Nat):St:={D with values:=D.values.set (ag l) ((D.c s).op.F,(D.c s).op.value)}
theorem vY {D:St} {s:Nat} {x:Bool} {head:Nat} (h:D.take.2=none):D.slot s x 0 head=(D.take.1,.abort 14 5):=by
 unfold St.slot;simp only[aW];generalize D.take=p at *;obtain⟨a,b⟩:=p;simp only at h;subst h;rfl
theorem vZ {D:St} {s:Nat} {x:Bool} {head l:Nat} (h:D.take.2=some l):D.slot s x 0 head=(D.take.1.lay s l,.fJ x l head):=by
 unfold St.slot;simp only[aW];generalize D.take=p at *;obtain⟨a,b⟩:=p;simp only at h;subst h;rfl
theorem Iw {D:St} {s:Nat} {x:Bool} {head l:Nat} (h:l≠0):D.slot s x l head=(D.lay s l,.fJ x l head):=by
 unfold St.slot;rw[bu h];rfl
theorem GU (hR:aF A D w) (s:Nat) (c:dY) (hc:D.calls.getD s none=some c) (l:Nat) (hv:VL D l):
 w.there A.bv (2*ag l) 2∧aF A (D.lay s l) (w.setCells A.bv (2*ag l) [I c.op.F,I c.op.value])∧Grow A.L w A.L (w.setCells A.bv (2*ag l) [I c.op.F,I c.op.value]):=by
 obtain⟨r1,g1⟩:=hR.Qb (iO hv) c.op.F c.op.value;refine⟨fun j hj=>⟨?_,hR.R4 _⟩,by unfold St.lay;rw[bC hc];exact r1,g1⟩
 match j,hj with
 |0,_=>rw[Nat.add_zero,(hR.val (iO hv)).1];rfl
 |1,_=>rw[(hR.val (iO hv)).2];rfl
theorem ry (hR:aF A D w) (s:Nat) (c:dY) (hc:D.calls.getD s none=some c) (x:Bool) (G head:Nat) (hv:Value) (hh:iJ A.L w 1 hv (if x then [] else [u64 head])) (hv0:G=0∨VL D G)
 (hm:A.mp=0) (hn:D.free.length<100000) (hfree:∀ i∈D.list.free,i<D.aG) (htag:∀ i,i<D.aG->(D.tags.getD i (0,false)).1<=65535):
 zk 151 #[R A.V 0,R (A.bt s) 0,R (A.bc s) 0,(kp A D s).xo x,zu G,hv] w (bG A w s (D.slot s x G head)):=by
 obtain⟨px,hx⟩:∃ px,(kp A D s).xo x=.pointer px:=by unfold KP.xo;split<;>exact⟨_,rfl⟩
 obtain⟨ha,hn1,hcap,XU⟩:∃ a n cap,hv=.slice a n cap:=⟨_,_,_,hh.choose_spec.choose_spec.choose_spec.1⟩
 rw[hx];subst XU;obtain⟨r6,g6,f0,f1,f2,f3,f4,f5⟩:=GD hR #[R A.V 0] 32 #[R (A.bt s) 0] 100 #[R (A.bc s) 0] 105 #[.pointer px] 223 #[zu G] 25 #[.slice ha hn1 hcap] 260;have RI:=hh.grow g6;have k0:=f0.cell 0 rfl;have k1:=f1.cell 0 rfl;have k2:=f2.cell 0 rfl;have k4:=f4.cell 0 rfl
 by_cases h0:G=0
 . have qm:D.take.1.aG=D.aG:=by unfold St.take;simp only;split<;>(unfold St.list;split<;>rfl)
   have Cy:D.take.1.aQ=D.aQ:=by unfold St.take;simp only;split<;>(unfold St.list;split<;>rfl)
   have oZ:D.take.1.calls=D.calls:=by unfold St.take;simp only;split<;>(unfold St.list;split<;>rfl)
   have e3:=r6.bT 3 (v:=R A.bp 0) rfl;have hz:((G:Int)==0)=true:=by simpa using h0
   have hz2:((G:Int)=0)=True:=by simpa using h0
   have HT:=U (J8 r6 hm hn hfree htag);have FACT:∀ L1 v1 m1 H,aF {A with L:=L1,fH:=v1,mp:=m1} D.take.1 H->Grow A.L ((((((w.alloc (.cells #[R A.V 0] 32)).alloc (.cells #[R (A.bt s) 0] 100)).alloc (.cells #[R (A.bc s) 0] 105)).alloc (.cells #[.pointer px] 223)).alloc (.cells #[zu G] 25)).alloc (.cells #[.slice ha hn1 hcap] 260)) L1 H->∀ l:Nat,zS H w.heap.size 0 A.V 0∧H.cell? ⟨w.heap.size+4,0,none⟩=zv G∧H.frozen? ⟨w.heap.size+4,0,none⟩=false∧
    (H.setCell ⟨w.heap.size+4,0,none⟩ (zu l)).cell? (J w.heap.size 0)=zs A.V 0∧(H.setCell ⟨w.heap.size+4,0,none⟩ (zu l)).cell? ⟨w.heap.size+1,0,none⟩=zs (A.bt s) 0∧(H.setCell ⟨w.heap.size+4,0,none⟩ (zu l)).cell? ⟨w.heap.size+2,0,none⟩=zs (A.bc s) 0∧(H.setCell ⟨w.heap.size+4,0,none⟩ (zu l)).cell? ⟨w.heap.size+4,0,none⟩=zv l∧
    (H.setCell ⟨w.heap.size+4,0,none⟩ (zu l)).cell? (J (A.bc s) 1)=zt c.op.F∧(H.setCell ⟨w.heap.size+4,0,none⟩ (zu l)).cell? (J (A.bc s) 3)=zt c.op.value∧
    aF {A with L:=L1,fH:=v1,mp:=m1} D.take.1 (H.setCell ⟨w.heap.size+4,0,none⟩ (zu l))∧Grow A.L w L1 (H.setCell ⟨w.heap.size+4,0,none⟩ (zu l))∧
    aP L1 (H.setCell ⟨w.heap.size+4,0,none⟩ (zu l)) w.heap.size (R A.V 0)∧aP L1 (H.setCell ⟨w.heap.size+4,0,none⟩ (zu l)) (w.heap.size+4) (zu l)∧aP L1 (H.setCell ⟨w.heap.size+4,0,none⟩ (zu l)) (w.heap.size+1) (R (A.bt s) 0)∧aP L1 (H.setCell ⟨w.heap.size+4,0,none⟩ (zu l)) (w.heap.size+3) (.pointer px)∧aP L1 (H.setCell ⟨w.heap.size+4,0,none⟩ (zu l)) (w.heap.size+2) (R (A.bc s) 0)∧aP L1 (H.setCell ⟨w.heap.size+4,0,none⟩ (zu l)) (w.heap.size+5) (.slice ha hn1 hcap)∧iJ L1 (H.setCell ⟨w.heap.size+4,0,none⟩ (zu l)) 1 (.slice ha hn1 hcap) (if x then [] else [u64 head]):=by
    intro L1 v1 m1 H q1 q2 l;have j0:=f0.grow q2;have j1:=f1.grow q2;have j2:=f2.grow q2;have j3:=f3.grow q2;have j4:=f4.grow q2;have j5:=f5.grow q2;obtain⟨r7,g7⟩:=hR.nZ q1 (g6.trans q2) Cy rfl (a:=⟨w.heap.size+4,0,none⟩) (by show w.heap.size<=w.heap.size+4;omega) j4.1 (zu l);have i0:=j0.setOther (a:=⟨w.heap.size+4,0,none⟩) (by show w.heap.size≠w.heap.size+4;omega) (zu l);have i1:=j1.setOther (a:=⟨w.heap.size+4,0,none⟩) (by show w.heap.size+1≠w.heap.size+4;omega) (zu l);have i2:=j2.setOther (a:=⟨w.heap.size+4,0,none⟩) (by show w.heap.size+2≠w.heap.size+4;omega) (zu l);have i3:=j3.setOther (a:=⟨w.heap.size+4,0,none⟩) (by show w.heap.size+3≠w.heap.size+4;omega) (zu l);have i4:=j4.vI (zu l);have i5:=j5.setOther (a:=⟨w.heap.size+4,0,none⟩) (by show w.heap.size+5≠w.heap.size+4;omega) (zu l);have hc1:D.take.1.calls.getD s none=some c:=by rw[oZ];exact hc
    exact⟨j0.cell 0 rfl,j4.cell 0 rfl,j4.frozen 0,i0.cell 0 rfl,i1.cell 0 rfl,i2.cell 0 rfl,i4.cell 0 rfl,r7.call hc1 1 rfl,r7.call hc1 3 rfl,r7,g7,i0.box,i4.box,i1.box,i3.box,i2.box,i5.box,hh.grow g7⟩
   have hc1:D.take.1.calls.getD s none=some c:=by rw[oZ];exact hc
   cases ht:D.take.2 with
   |none=>
    have e:D.slot s x G head=(D.take.1,.abort 14 5):=by rw[h0];exact vY ht
    rw[e];rw[ht,show Aw none=.tuple #[zu 0,I 15] from rfl] at HT;have HF:=U FACT;clear hR hh hv0 hm hn hfree htag r6 g6 f0 f1 f2 f3 f4 f5 RI h0 e ht FACT qm Cy oZ hc1 hc;generalize D.take.1=aC at*;go_enter Tryz.func151,Tryz.ntmps151;go_wp2_with (first|(go_at_call 167;refine HT.out.mono ?_;rintro e H ⟨rfl,A1,⟨⟨L1,v1,m1,rfl⟩,hm1⟩,q1,q2⟩;obtain⟨c0,c4,z4,n0,n1,n2,n4,n5,n6,r7,g7,Z⟩:=HF.out L1 v1 m1 H q1 q2 0;rw[show ((0:Nat):Int)=0 from rfl] at n0 n1 n2 n4 n5 n6 r7 g7;have HA:=U (jM r7 s 14 5);have HG:=U (zA g7 hm1);clear q1 q2 r7 g7 Z hm1)|(go_at_call 97;refine HA.out.mono ?_;rintro e w2 ⟨A2,v,rfl,p1,p2,p3,p4⟩));go_ret;have hst:bU A {A with L:=L1,fH:=v1,mp:=m1} s:=⟨rfl,rfl,rfl,rfl,rfl,rfl,rfl,rfl,rfl,HG.out.2,rfl,fun _ _=>rfl,fun _ _=>rfl⟩
    exact⟨A2,v,rfl,p1,HG.out.1.trans p2,hst.trans p3,p4⟩
   |some l=>
    have e:D.slot s x G head=(D.take.1.lay s l,.fJ x l head):=by rw[h0];exact vZ ht
    rw[e];rw[ht,show Aw (some l)=.tuple #[zu l,I 0] from rfl] at HT;have hvl:VL D.take.1 l:=(Nu hfree (by have:=hR.sl;omega) htag ht).1;have FIN:∀ L1 v1 m1 ws,aF {A with L:=L1,fH:=v1,mp:=m1} D.take.1 ws->Grow A.L w L1 ws->zk 87 #[R A.V 0,zu l] ws.drew (fun e E=>e=.returned (.pointer (some ⟨A.bv,2*ag l,none⟩))∧E=ws.drew)∧ws.drew.there A.bv (2*ag l) 2∧(∀ E,World.setCells ws.drew A.bv (2*ag l) [I c.op.F,I c.op.value]=E->aF {A with L:=L1,fH:=v1,mp:=m1} (D.take.1.lay s l) E∧Grow A.L w L1 E∧Grow L1 ws L1 E):=by
     intro L1 v1 m1 ws r7 g7;obtain⟨t1,t2,t3⟩:=GU r7.drew s c hc1 l hvl;refine⟨flip (l9 r7.drew l hvl.lo hvl.hi hvl.u),t1,?_⟩;rintro E rfl;have gd:Grow L1 ws L1 ws.drew:=Grow.drew _ _;exact⟨t2,(g7.trans gd).trans t3,gd.trans t3⟩
    have HF:=U FACT;have HN:=U FIN;have hx':(kp A D.take.1 s).xo x=.pointer px:=by
     rw[show kp A D.take.1 s=kp A D s by unfold kp St.c;rw[oZ]];exact hx
    have HX:=U hx';clear hR hh hv0 hm hn hfree htag r6 g6 f0 f1 f2 f3 f4 f5 RI h0 e ht FACT qm Cy oZ hc1 hc hvl FIN hx hx';generalize D.take.1=aC at*;go_enter Tryz.func151,Tryz.ntmps151;go_wp2_with (go_at_call 167;refine HT.out.mono ?_;rintro e H ⟨rfl,A1,⟨⟨L1,v1,m1,rfl⟩,hm1⟩,q1,q2⟩;obtain⟨c0,c4,z4,n0,n1,n2,n4,n5,n6,r7,g7,Z⟩:=HF.out L1 v1 m1 H q1 q2 l;have HG:=U (zA r7 (zA g7 (zA hm1 Z)));clear q1 q2 r7 g7 Z hm1);generalize hws:World.setCell _ _ _=ws at*;obtain⟨d0,d1,d2⟩:=HN.out L1 v1 m1 ws HG.out.1 HG.out.2.1;have HD:=U d0;clear HT;have HT:=U d1;have UZ:=U d2;clear d0 d1 d2 HF HN hws;refine wp_region_still_tail 15 (by kernel_rfl) (by kernel_rfl) ?_;simp only[jZ,j6,kg,kr]
    repeat still_step
    still_call HD.out
    repeat still_step
    refine wpStill_nil ?_;change wpList _ _ _ _ _ ws.drew;generalize ws.drew=wd at*;go_wp2_with (refine wpList_store_mid rfl 190 (.tmp 44) (.tmp 43) rfl A.bv (2*ag l) #[I c.op.F,I c.op.value] rfl rfl HT.out (by kernel_rfl) (by simp[Value.oneCell']) ?_;generalize hws:World.setCells _ _ _ _=ws;obtain⟨k1,k2⟩:=UZ.out ws hws;have HK:=U (zA k1 k2);clear k1 k2 hws);go_ret;obtain⟨b0,b4,b1,b3,b2,b5,hrow⟩:=HG.out.2.2.2;obtain⟨r8,g8,g9⟩:=HK.out;exact⟨_,_,rfl,r8,g8,⟨rfl,rfl,rfl,rfl,rfl,rfl,rfl,rfl,rfl,HG.out.2.2.1,rfl,fun _ _=>rfl,fun _ _=>rfl⟩,_,_,_,_,_,_,rfl,b0.grow g9,b4.grow g9,b1.grow g9,by have:=b3.grow g9;rw[<-HX.out] at this;exact this,b2.grow g9,_,b5.grow g9,hrow.grow g9⟩
 . have hvl:=hv0.resolve_left h0
   rw[Iw h0];have d1:((G:Int)==0)=false:=by simpa using h0
   have d2:((G:Int)=0)=False:=by simpa using h0
   have q1:=r6.call hc 1 (v:=I c.op.F) rfl;have q3:=r6.call hc 3 (v:=I c.op.value) rfl;have HD:=U (flip (l9 r6.drew G hvl.lo hvl.hi hvl.u));obtain⟨t1,t2,t3⟩:=GU r6.drew s c hc G hvl;have HT:=U t1;have UZ:Hid (∀ ws,World.setCells ((((((w.alloc (.cells #[R A.V 0] 32)).alloc (.cells #[R (A.bt s) 0] 100)).alloc (.cells #[R (A.bc s) 0] 105)).alloc (.cells #[.pointer px] 223)).alloc (.cells #[zu G] 25)).alloc (.cells #[.slice ha hn1 hcap] 260)).drew A.bv (2*ag G) [I c.op.F,I c.op.value]=ws->aF A (D.lay s G) ws∧Grow A.L ((((((w.alloc (.cells #[R A.V 0] 32)).alloc (.cells #[R (A.bt s) 0] 100)).alloc (.cells #[R (A.bc s) 0] 105)).alloc (.cells #[.pointer px] 223)).alloc (.cells #[zu G] 25)).alloc (.cells #[.slice ha hn1 hcap] 260)).drew A.L ws):=U (by rintro ws rfl;exact⟨t2,t3⟩);have HB:=U (zA (g6.trans (Grow.drew _ _)) (zA (zA f0 (zA f4 (zA f1 (zA f3 (zA f2 f5))))) (zA RI (Grow.drew A.L ((((((w.alloc (.cells #[R A.V 0] 32)).alloc (.cells #[R (A.bt s) 0] 100)).alloc (.cells #[R (A.bc s) 0] 105)).alloc (.cells #[.pointer px] 223)).alloc (.cells #[zu G] 25)).alloc (.cells #[.slice ha hn1 hcap] 260))))));clear hR hh hv0 hm hn hfree htag r6 g6 f0 f1 f2 f3 f4 f5 RI hvl h0 t1 t2 t3;go_enter Tryz.func151,Tryz.ntmps151;go_wp2_with fail;generalize ((((((w.alloc (.cells #[R A.V 0] 32)).alloc (.cells #[R (A.bt s) 0] 100)).alloc (.cells #[R (A.bc s) 0] 105)).alloc (.cells #[.pointer px] 223)).alloc (.cells #[zu G] 25)).alloc (.cells #[.slice ha hn1 hcap] 260))=w6 at*;refine wp_region_still_tail 15 (by kernel_rfl) (by kernel_rfl) ?_;simp only[jZ,j6,kg,kr]
   repeat still_step
   still_call HD.out
   repeat still_step
   refine wpStill_nil ?_;change wpList _ _ _ _ _ w6.drew;generalize w6.drew=wd at*;go_wp2_with (refine wpList_store_mid rfl 190 (.tmp 44) (.tmp 43) rfl A.bv (2*ag G) #[I c.op.F,I c.op.value] rfl rfl HT.out (by kernel_rfl) (by simp[Value.oneCell']) ?_;generalize hws:World.setCells _ _ _ _=ws;obtain⟨k1,k2⟩:=UZ.out ws hws;have HK:=U (zA k1 k2);clear k1 k2 hws);go_ret;obtain⟨g7,⟨f0,f4,f1,f3,f2,f5⟩,RI,gd⟩:=HB.out;obtain⟨r8,g8⟩:=HK.out;have g9:=gd.trans g8;exact⟨A,_,rfl,r8,g7.trans g8,bU.refl _ _,_,_,_,_,_,_,rfl,(f0.grow g9).box,(f4.grow g9).box,(f1.grow g9).box,hx ▸ (f3.grow g9).box,(f2.grow g9).box,_,(f5.grow g9).box,RI.grow g9⟩
theorem Cz (hR:aF A D w) (s:Nat) (c:dY) (hc:D.calls.getD s none=some c) (G head at_:Nat) (hv0:G=0∨VL D G)
 (hm:A.mp=0) (hn:D.free.length<100000) (hfree:∀ i∈D.list.free,i<D.aG) (htag:∀ i,i<D.aG->(D.tags.getD i (0,false)).1<=65535):
 zk 154 #[R A.V 0,R (A.bt s) 0,R (A.bc s) 0,zu G,zu head,zu at_] w (bG A w s (D.jk s G head at_)):=by
 obtain⟨r6,g6,f0,f1,f2,f3,f4,f5⟩:=GD hR #[R A.V 0] 32 #[R (A.bt s) 0] 100 #[R (A.bc s) 0] 105 #[zu G] 25 #[zu head] 25 #[zu at_] 25;have k0:=f0.cell 0 rfl;have k1:=f1.cell 0 rfl;have k2:=f2.cell 0 rfl;have k3:=f3.cell 0 rfl;have k4:=f4.cell 0 rfl;have k5:=f5.cell 0 rfl;unfold St.jk
 by_cases h0:at_=0
 . rw[aW h0]
   have d1:((at_:Int)==0)=true:=by simpa using h0
   have d2:((at_:Int)=0)=True:=by simpa using h0
   obtain⟨r7,g7,f6⟩:=dz r6 #[zu head] 25;have hrow:iJ A.L (((((((w.alloc (.cells #[R A.V 0] 32)).alloc (.cells #[R (A.bt s) 0] 100)).alloc (.cells #[R (A.bc s) 0] 105)).alloc (.cells #[zu G] 25)).alloc (.cells #[zu head] 25)).alloc (.cells #[zu at_] 25)).alloc (.cells #[zu head] 25)) 1 (.slice (some ⟨w.heap.size+6,0,none⟩) 1 1) (if false then [] else [u64 head]):=by
    rw[show ((((((w.alloc (.cells #[R A.V 0] 32)).alloc (.cells #[R (A.bt s) 0] 100)).alloc (.cells #[R (A.bc s) 0] 105)).alloc (.cells #[zu G] 25)).alloc (.cells #[zu head] 25)).alloc (.cells #[zu at_] 25)).heap.size=w.heap.size+6 by simp] at f6;refine⟨_,_,_,rfl,rfl,by omega,by unfold maxLen;omega,.inr ⟨_,0,rfl,f6.1,?_,?_⟩⟩
    . simp
    . intro j hj
      have hj0:j=0:=by omega
      subst hj0;exact f6.cell 0 rfl
   have HS:=U (ry r7 s c hc false G head _ hrow hv0 hm hn hfree htag);have HG:=U (g6.trans g7);clear hR hc hv0 hm hn hfree htag h0 hrow r6 g6 r7 g7 f0 f1 f2 f3 f4 f5 f6;go_enter Tryz.func154,Tryz.ntmps154;go_wp2_with (go_at_call 151;refine HS.out.mono ?_;rintro e w2 ⟨A2,v,rfl,p1,p2,p3,p4⟩);go_ret;exact⟨A2,v,rfl,p1,HG.out.trans p2,p3,p4⟩
 . rw[bu h0]
   have d1:((at_:Int)==0)=false:=by simpa using h0
   have d2:((at_:Int)=0)=False:=by simpa using h0
   obtain⟨r7,g7,f6⟩:=dz r6 #[.func (.func 172) #[] #[R w.heap.size 0,.pointer (some ⟨w.heap.size+1,0,none⟩),.pointer (some ⟨w.heap.size+2,0,none⟩),.pointer (some ⟨w.heap.size+3,0,none⟩),.pointer (some ⟨w.heap.size+4,0,none⟩),.pointer (some ⟨w.heap.size+5,0,none⟩)]] 138;have HG:=U (zA r7 (zA (g6.trans g7) (zA (f0.grow g7).box (zA (f1.grow g7).box (zA (f2.grow g7).box (zA (f3.grow g7).box (zA (f4.grow g7).box (zA (f5.grow g7).box f6.box))))))));clear hR hc hv0 hm hn hfree htag h0 r6 g6 r7 g7 f0 f1 f2 f3 f4 f5 f6;go_enter Tryz.func154,Tryz.ntmps154;go_wp2;go_ret;obtain⟨r7,g7,f0,f1,f2,f3,f4,f5,f6⟩:=HG.out;have hsz:((((((w.alloc (.cells #[R A.V 0] 32)).alloc (.cells #[R (A.bt s) 0] 100)).alloc (.cells #[R (A.bc s) 0] 105)).alloc (.cells #[zu G] 25)).alloc (.cells #[zu head] 25)).alloc (.cells #[zu at_] 25)).heap.size=w.heap.size+6:=by simp
   rw[hsz] at f6;exact⟨A,_,rfl,r7,g7,bU.refl _ _,_,_,_,_,_,_,rfl,f0,f5,f1,⟨_,f6,_,_,_,_,_,_,rfl,f0,f1,f2,f3,f4,f5⟩,f2,f3⟩
structure iY (D:St):Prop where
 n:D.free.length<100000
 free:∀ i∈D.free,i<D.aG
 tag:∀ i,i<D.aG->(D.tags.getD i (0,false)).1<=65535
 jh:D.jh<1000000
theorem iY.list {D:St} (h:iY D):∀ i∈D.list.free,i<D.aG:=by
 unfold St.list
 split
 . exact h.free
 . intro i hi
   rcases List.mem_append.1 hi with h1|h1
   . exact h.free i h1
   . simpa using h1
theorem iP (h:aF A D w) (i:Nat) (z:Int) (hz:z=(i:Int)) (hi:i<D.words.length) (hc:D.count<4000000000000000000):
 zk 42 #[R A.ba 0,I z] w (uL A w D.tick (zu (D.word i:Int))):=by subst hz;exact iN h i hi hc
theorem Nv (hR:aF A D w) (s:Nat) (c:dY) (hc:D.calls.getD s none=some c) (G:Nat) (hv0:G=0∨VL D G) (Y:c.op.F<64) (hm:A.mp=0) (hp:iY D) (aN:D.count<4000000000000000000)
 (b0 b1 b2 b3:Nat) (B0:aP A.L w b0 (R A.V 0)) (B1:aP A.L w b1 (R (A.bc s) 0)) (B2:aP A.L w b2 (R (A.bt s) 0)) (B3:aP A.L w b3 (zu G)):
 zk 153 #[R b0 0,R b1 0,R b2 0,R b3 0] w (lF A w s (D.run s (.fresh G))):=by
 have c0:=B0.cell;have c1:=B1.cell;have e2:=hR.z2;have k1:w.cell? (J (A.bc s) 1)=zt c.op.F:=hR.call hc 1 rfl;have n1:IntKind.i64.wrap (9+(c.op.F:Int))=9+(c.op.F:Int):=by rw[je];omega
 have HL:=U (iP hR.drew (9+c.op.F) (9+(c.op.F:Int)) (by omega) (by rw[hR.nw];omega) aN);have aU:D.run s (.fresh G)=(((D.tick.jk s G (D.word (9+c.op.F)) (D.word (9+c.op.F)))).1,some ((D.tick.jk s G (D.word (9+c.op.F)) (D.word (9+c.op.F)))).2):=by
  simp only[St.run,bC hc]
 rw[aU];have HB:Hid (∀ H,aF A D.tick H->Grow A.L w.drew A.L H->zk 154 #[R A.V 0,R (A.bt s) 0,R (A.bc s) 0,zu G,zu (D.word (9+c.op.F):Int),zu (D.word (9+c.op.F):Int)] H (bG A H s (D.tick.jk s G (D.word (9+c.op.F)) (D.word (9+c.op.F))))∧zS H b0 0 A.V 0∧zS H b1 0 (A.bc s) 0∧zS H b2 0 (A.bt s) 0∧zV H b3 0 G∧Grow A.L w A.L H):=by
  intro H q1 q2;have g:Grow A.L w A.L H:=(Grow.drew _ _).trans q2;exact⟨Cz q1 s c hc G _ _ (hv0.imp id fun h=>⟨h.lo,h.hi,h.u⟩) hm hp.n (iY.list (D:=D.tick) ⟨hp.n,hp.free,hp.tag,hp.jh⟩) hp.tag,(B0.grow g).cell,(B1.grow g).cell,(B2.grow g).cell,(B3.grow g).cell,g⟩
 clear hR hc hv0 hm hp aN B0 B1 B2 B3 aU Y;generalize D.tick.jk s G (D.word (9+c.op.F)) (D.word (9+c.op.F))=res at*;generalize D.word (9+c.op.F)=hd at*;generalize c.op.F=F at*;go_enter Tryz.func153,Tryz.ntmps153;go_wp2_with fail;refine wp_region_still_tail 10 (by kernel_rfl) (by kernel_rfl) ?_;simp only[jZ,j6,kg,kr]
 repeat still_step
 refine wpStill_nil ?_;change wpList _ _ _ _ _ w.drew;generalize w.drew=wd at*;go_wp2_with (first|(go_at_call 42;refine HL.out.mono ?_;rintro e H ⟨rfl,q1,q2⟩;obtain⟨hf,d0,d1,d2,d3,g1⟩:=HB.out H q1 q2;have HF:=U (zA hf g1);clear q1 q2 hf g1)|(go_at_call 154;refine HF.out.1.mono ?_;rintro e w2 ⟨A2,v,rfl,p1,p2,p3,p4⟩));go_ret;exact⟨A2,v,rfl,p1,HF.out.2.trans p2,p3,p4⟩
theorem Qj (hR:aF A D w) (s:Nat) (c:dY) (hc:D.calls.getD s none=some c) (G head at_:Nat) (hv0:G=0∨VL D G) (hv:VL D at_) (hm:A.mp=0) (hp:iY D) (aN:D.count<4000000000000000000)
 (b0 b1 b2 b3 b4 b5:Nat) (B0:aP A.L w b0 (R A.V 0)) (B1:aP A.L w b1 (R (A.bt s) 0)) (B2:aP A.L w b2 (R (A.bc s) 0)) (B3:aP A.L w b3 (zu G)) (B4:aP A.L w b4 (zu head)) (B5:aP A.L w b5 (zu at_)):
 zk 172 #[R b0 0,R b1 0,R b2 0,R b3 0,R b4 0,R b5 0] w (lF A w s (D.run s (.next G head at_))):=by
 have c0:=B0.cell;have c1:=B1.cell;have c2:=B2.cell;have c3:=B3.cell;have c4:=B4.cell;have c5:=B5.cell;have hsl:=hR.sl;have e2:=hR.z2;have HS:=U (eD at_ 2 2 rfl hv.lo (by have:=hv.hi;omega) hv.u (by omega));have HL:=U (iN hR.drew (af at_ 2) (dD hR hv.lo hv.hi (by omega)) aN);have HG:=zG A.L w;have HK:Hid (∀ E,Kp A w E->zS E b0 0 A.V 0∧zS E b1 0 (A.bt s) 0∧zS E b2 0 (A.bc s) 0∧zV E b3 0 G∧zV E b4 0 head∧zV E b5 0 at_∧zS E A.V 2 A.ba 0):=by
  obtain⟨_,x0⟩:=B0;obtain⟨_,x1⟩:=B1;obtain⟨_,x2⟩:=B2;obtain⟨_,x3⟩:=B3;obtain⟨_,x4⟩:=B4;obtain⟨_,x5⟩:=B5;exact fun E k=>⟨k.fix _ _ _ x0.1 c0,k.fix _ _ _ x1.1 c1,k.fix _ _ _ x2.1 c2,k.fix _ _ _ x3.1 c3,k.fix _ _ _ x4.1 c4,k.fix _ _ _ x5.1 c5,k.ea⟩
 have aU:D.run s (.next G head at_)=((D.tick.jk s G head (D.word (af at_ 2))).1,some (D.tick.jk s G head (D.word (af at_ 2))).2):=rfl;rw[aU];have HB:Hid (∀ H,aF A D.tick H->zk 154 #[R A.V 0,R (A.bt s) 0,R (A.bc s) 0,zu G,zu head,zu (D.word (af at_ 2):Int)] H (bG A H s (D.tick.jk s G head (D.word (af at_ 2))))):=
  fun H q1=>Cz q1 s c hc G _ _ (hv0.imp id fun h=>⟨h.lo,h.hi,h.u⟩) hm hp.n (iY.list (D:=D.tick) ⟨hp.n,hp.free,hp.tag,hp.jh⟩) hp.tag
 clear hR hc hv0 hv hm hp aN B0 B1 B2 B3 B4 B5 aU hsl;go_enter Tryz.func172,Tryz.ntmps172;go_wp2_with fail
 go_region_held3 (fun E=>zS E b0 0 A.V 0∧zS E b1 0 (A.bt s) 0∧zS E b2 0 (A.bc s) 0∧zV E b3 0 G∧zV E b4 0 head∧zV E b5 0 at_∧zS E A.V 2 A.ba 0)
  (first|exact⟨c0,c1,c2,c3,c4,c5,e2⟩|assumption|exact HK.out _ (Kp.of (by assumption) (by assumption) (by assumption)))
  (first|(go_at_call 85;refine (HS.out _).mono ?_;rintro e E ⟨rfl,rfl⟩)|(go_at_call 42;refine HL.out.mono ?_;rintro e H ⟨rfl,q1,q2⟩;have q4:=HG.out.trans q2;have q3:=bU.refl A s;clear q2)|(go_at_call 154;refine (HB.out _ (by assumption)).mono ?_;rintro e w2 ⟨A',v,rfl,p1,p2,p3,p4⟩;have p5:=(‹Grow A.L w A.L _›).trans p2))
 go_wp2_with fail;go_ret;exact⟨A',_,rfl,p1,p5,p3,p4⟩
theorem CB (hR:aF A D w) (s:Nat) (t:bL) (ht:D.ai.getD s none=some t) (c:dY) (hc:D.calls.getD s none=some c) (hx:t.cell c.op.F=none):
 zk 98 #[R A.V 0,R (A.bt s) 0,R (A.bc s) 0] w (bG A w s (D,.start ⟨c.op.F,t.aJ,.change⟩)):=by
 obtain⟨r3,g3,_,_,_⟩:=jl hR #[R A.V 0] 32 #[R (A.bt s) 0] 100 #[R (A.bc s) 0] 105;have k1:=r3.call hc 1 (v:=I c.op.F) rfl;obtain⟨r4,g4,f0,f1,f2,f3⟩:=jK hR #[R A.V 0] 32 #[R (A.bt s) 0] 100 #[R (A.bc s) 0] 105 #[I c.op.F] 3;have a0:=f0.cell 0 (v:=R A.V 0) rfl;have a1:=f1.cell 0 (v:=R (A.bt s) 0) rfl;have a2:=f2.cell 0 (v:=R (A.bc s) 0) rfl;have a3:=f3.cell 0 (v:=I c.op.F) rfl;have a7:=r4.fI ht 7 (v:=.map (some (A.bm s))) rfl;have ab:=r4.fI ht 3 (v:=zu t.aJ) rfl;have hlk:=fun n=>gF (r4.drewN n) ht c.op.F
 have hpx:A.px s t c.op.F=.pointer none:=by unfold az.px;rw[hx];rfl
 rw[hpx] at hlk;have gd:=fun n=>(Grow.drewN A.L ((((w.alloc (.cells #[R A.V 0] 32)).alloc (.cells #[R (A.bt s) 0] 100)).alloc (.cells #[R (A.bc s) 0] 105)).alloc (.cells #[I c.op.F] 3)) n).trans (Grow.drew A.L _)
 have HF:=U (fun n=>zA (sH (r4.drewN n).drew s c.op.F t.aJ (.func (.func 130) #[] #[.pointer (some ⟨w.heap.size+1+1,0,none⟩),.pointer (some ⟨w.heap.size+1,0,none⟩),.pointer (some ⟨w.heap.size+1+1+1,0,none⟩),R w.heap.size 0]) .change ⟨_,_,_,_,rfl,f2.box.grow (gd n),f1.box.grow (gd n),f3.box.grow (gd n),f0.box.grow (gd n)⟩) (g4.trans (gd n)));clear hR ht hc hx r3 g3 r4 g4 f0 f1 f2 f3 gd hpx;generalize c.op.F=F at*;generalize t.aJ=bg at*;go_enter Tryz.func98,Tryz.ntmps98;go_wp2_with fail;generalize (((w.alloc _).alloc _).alloc _).alloc _=w4 at*
 go_quiet (fail)
 go_wp2_with fail;generalize jg:w4.drewN _=w5;have e0:w5.cell? (J w.heap.size 0)=zs A.V 0:=by rw[<-jg];exact a0
 have e1:w5.cell? ⟨w.heap.size+1,0,none⟩=zs (A.bt s) 0:=by rw[<-jg];exact a1
 have e3:w5.cell? ⟨w.heap.size+1+1+1,0,none⟩=zt F:=by rw[<-jg];exact a3
 have eb:w5.cell? (J (A.bt s) 3)=zv bg:=by rw[<-jg];exact ab
 have Sa:∀ n,w4.drewN n=w5->zk 114 #[R A.V 0,R (A.bt s) 0,I F,zu bg,.func (.func 130) #[] #[.pointer (some ⟨w.heap.size+1+1,0,none⟩),.pointer (some ⟨w.heap.size+1,0,none⟩),.pointer (some ⟨w.heap.size+1+1+1,0,none⟩),R w.heap.size 0]] w5.drew (bG A w5.drew s (D,.start ⟨F,bg,.change⟩))∧Grow A.L w A.L w5.drew:=fun n h=>by rw[<-h];exact HF.out n
 have Sb:=Sa _ jg;have Sc:=U Sb;clear a0 a1 a2 a3 a7 ab hlk HF Sa Sb jg;refine wp_region_still_tail 8 (by kernel_rfl) (by kernel_rfl) ?_;simp only[jZ,j6,kg,kr]
 repeat still_step
 refine wpStill_nil ?_;go_wp2_with (go_at_call 114;refine (Sc.out.1).mono ?_;rintro e w2 ⟨A2,v,rfl,p1,p2,p3,p4⟩);go_ret;exact⟨A2,v,rfl,p1,Sc.out.2.trans p2,p3,p4⟩
theorem CE (hR:aF A D w) (s:Nat) (c:dY) (hc:D.calls.getD s none=some c) (Q:Ending->World->Prop) (h1:c.op.kind=1->zk 94 #[R A.V 0,R (A.bt s) 0,R (A.bc s) 0] w Q) (h5:c.op.kind=5->zk 95 #[R A.V 0,R (A.bt s) 0,R (A.bc s) 0,I c.op.F] w Q) (h6:c.op.kind=6->zk 96 #[R A.V 0,R (A.bt s) 0,R (A.bc s) 0] w Q) (h7:c.op.kind=7->zk 97 #[R A.V 0,R (A.bt s) 0,R (A.bc s) 0,I 0,I 1] w Q)
 (hz:c.op.kind≠1->c.op.kind≠5->c.op.kind≠6->c.op.kind≠7->zk 98 #[R A.V 0,R (A.bt s) 0,R (A.bc s) 0] w Q) (hQ:∀ e E,Q e E->∃ v,e=.returned v):
 zk 70 #[R A.V 0,R (A.bt s) 0,R (A.bc s) 0] w Q:=by
 have k0:w.cell? (J (A.bc s) 0)=zt c.op.kind:=hR.call hc 0 rfl;have k1:w.cell? (J (A.bc s) 1)=zt c.op.F:=hR.call hc 1 rfl;clear hR hc;generalize c.op.kind=kd at*;generalize c.op.F=F at*;have HQ:=U hQ;clear hQ
 by_cases k1':kd=1
 . subst k1'
   have RJ:w.cell? (J (A.bc s) 0)=zt 1:=k0;clear k0;have HC:=U (h1 rfl);clear h1 h5 h6 h7 hz;go_enter Tryz.func70,Tryz.ntmps70;go_wp2_with (go_at_call 94;refine HC.out.mono ?_;intro e w2 hq;obtain⟨v,rfl⟩:=HQ.out e w2 hq;have HV:=U hq;clear hq);exact HV.out
 . skip
   by_cases Sd:kd=5
   . subst Sd
     have RJ:w.cell? (J (A.bc s) 0)=zt 5:=k0;clear k0;have HC:=U (h5 rfl);clear h1 h5 h6 h7 hz;clear k1';go_enter Tryz.func70,Tryz.ntmps70;go_wp2_with (go_at_call 95;refine HC.out.mono ?_;intro e w2 hq;obtain⟨v,rfl⟩:=HQ.out e w2 hq;have HV:=U hq;clear hq);exact HV.out
   . skip
     by_cases UB:kd=6
     . subst UB
       have RJ:w.cell? (J (A.bc s) 0)=zt 6:=k0;clear k0;have HC:=U (h6 rfl);clear h1 h5 h6 h7 hz;clear k1' Sd;go_enter Tryz.func70,Tryz.ntmps70;go_wp2_with (go_at_call 96;refine HC.out.mono ?_;intro e w2 hq;obtain⟨v,rfl⟩:=HQ.out e w2 hq;have HV:=U hq;clear hq);exact HV.out
     . skip
       by_cases U0:kd=7
       . subst U0
         have RJ:w.cell? (J (A.bc s) 0)=zt 7:=k0;clear k0;have HC:=U (h7 rfl);clear h1 h5 h6 h7 hz;clear k1' Sd UB;go_enter Tryz.func70,Tryz.ntmps70;go_wp2_with (go_at_call 97;refine HC.out.mono ?_;intro e w2 hq;obtain⟨v,rfl⟩:=HQ.out e w2 hq;have HV:=U hq;clear hq);exact HV.out
       . skip
         have a1:((kd:Int)==1)=false:=by simp;omega
         have b1:((kd:Int)=1)=False:=by simp;omega
         have n1:(kd=1)=False:=by simp;omega
         have a5:((kd:Int)==5)=false:=by simp;omega
         have b5:((kd:Int)=5)=False:=by simp;omega
         have n5:(kd=5)=False:=by simp;omega
         have a6:((kd:Int)==6)=false:=by simp;omega
         have b6:((kd:Int)=6)=False:=by simp;omega
         have n6:(kd=6)=False:=by simp;omega
         have a7:((kd:Int)==7)=false:=by simp;omega
         have b7:((kd:Int)=7)=False:=by simp;omega
         have n7:(kd=7)=False:=by simp;omega
         have HC:=U (hz k1' Sd UB U0);clear h1 h5 h6 h7 hz;clear k1' Sd UB U0;go_enter Tryz.func70,Tryz.ntmps70;go_wp2_with (go_at_call 98;refine HC.out.mono ?_;intro e w2 hq;obtain⟨v,rfl⟩:=HQ.out e w2 hq;have HV:=U hq;clear hq);exact HV.out
theorem kM.enter {p:KP} {L:eH} {w:World} {v:Value} {F:Nat} {t:P6} (h:kM p L w v F t):∃ f c,v=.func (.func f) #[] c∧∀ args w,(callFunc f args).run Tryz.prog w=.ok (.enter f args) w:=by
 cases t
 . obtain⟨b0,b1,b2,b3,e,_⟩:=h;exact⟨_,_,e,fun args w=>by kernel_rfl⟩
 . obtain⟨b0,b1,b2,b3,b4,e,_⟩:=h;exact⟨_,_,e,fun args w=>by kernel_rfl⟩
 . obtain⟨b0,b1,b2,b3,e,_⟩:=h;exact⟨_,_,e,fun args w=>by kernel_rfl⟩
 . obtain⟨b0,b1,b2,b3,b4,e,_⟩:=h;exact⟨_,_,e,fun args w=>by kernel_rfl⟩
def Kb (A:az) (w:World) (D:St) (s:Nat) (hu:dR) (G:Nat):Prop:=∀ H f c,aF A D H->Grow A.L w A.L H->kM (kp A D s) A.L H (.func (.func f) #[] c) hu.F hu.thn->zk f (#[zu G]++c) H (bG A H s (D.thn s hu G))
theorem yS (hR:aF A D w) (s:Nat) (bh:Nat) (hu:dR) (hh:dS (kp A D s) A.L w bh hu) (G:Nat) (HT:G=0->Kb A w D s hu 0):
 zk 162 #[R bh 0,zu G] w (bG A w s (D.visit s hu G)):=by
 obtain⟨r1,g1,f0,f1⟩:=jJ hR #[R bh 0] 246 #[zu G] 25;have c0:=f0.cell 0 (v:=R bh 0) rfl;have c1:=f1.cell 0 (v:=zu G) rfl;have sJ:=hh.grow g1
 by_cases h0:G=0
 . have e0:D.visit s hu G=D.thn s hu 0:=by unfold St.visit;rw[aW h0]
   rw[e0];obtain⟨vt,TT,fh,hth⟩:=sJ;obtain⟨fv,cv,rfl,hent⟩:=hth.enter;have d1:((G:Int)==0)=true:=by simpa using h0
   have d3:((G:Int)=0)=True:=by simpa using h0
   have h4:=fh.cell 4 (v:=.func (.func fv) #[] cv) rfl;have hf:=HT h0 _ fv cv r1 g1 hth;have HF:=U (zA hf g1);clear hR hh r1 g1 f0 f1 fh hth hf HT h0 e0;go_enter Tryz.func162,Tryz.ntmps162;go_wp2_with fail;refine HF.out.1.mono ?_;rintro e w3 ⟨A',v,rfl,q1,q2,q3,q4⟩;go_wp2_with fail;go_ret;exact⟨A',v,rfl,q1,HF.out.2.trans q2,q3,q4⟩
 . have e0:D.visit s hu G=(D,.visit hu G):=by unfold St.visit;rw[bu h0]
   rw[e0];have d1:((G:Int)==0)=false:=by simpa using h0
   have d3:((G:Int)=0)=False:=by simpa using h0
   have HQ:=U (zA r1 (zA g1 (zA f0 (zA f1 sJ))));clear hR hh r1 g1 f0 f1 sJ HT h0 e0;go_enter Tryz.func162,Tryz.ntmps162;go_wp2_with fail;go_ret;obtain⟨r1,g1,f0,f1,sJ⟩:=HQ.out;exact⟨A,_,rfl,r1,g1,bU.refl _ _,_,_,rfl,⟨_,f0.box,sJ⟩,f1.box⟩
theorem Nw (hR:aF A D w) (s:Nat) (hu:dR) (bh:Nat) (hh:dS (kp A D s) A.L w bh hu) (Y:hu.F<64) (aN:D.count<4000000000000000000) (HT:D.word (9+hu.F)=0->∀ H,aF A D.tick H->Grow A.L w A.L H->Kb A H D.tick s hu 0):
 zk 142 #[R bh 0] w (lF A w s (D.run s (.start hu))):=by
 have hh0:=hh;obtain⟨vt,TT,fh,hth⟩:=hh;have h0:=fh.cell 0 (v:=R A.V 0) rfl;have h2:=fh.cell 2 (v:=I hu.F) rfl;have e2:=hR.z2;have n1:IntKind.i64.wrap (9+(hu.F:Int))=9+(hu.F:Int):=by rw[je];omega
 have HL:=U (iP hR.drew (9+hu.F) (9+(hu.F:Int)) (by omega) (by rw[hR.nw];omega) aN);have HG:=zG A.L w;have HK:Hid (∀ E,Kp A w E->zS E bh 0 A.V 0∧zT E bh 2 hu.F∧zS E A.V 2 A.ba 0):=fun E k=>⟨k.fix _ _ _ fh.1 h0,k.fix _ _ _ fh.1 h2,k.ea⟩
 have HB:Hid (∀ H,aF A D.tick H->Grow A.L w A.L H->zk 162 #[R bh 0,zu (D.word (9+hu.F):Int)] H (bG A H s (D.tick.visit s hu (D.word (9+hu.F))))):=
  fun H r g=>yS r s bh hu (hh0.grow g) _ fun hz=>HT hz H r g
 have aU:D.run s (.start hu)=((D.tick.visit s hu (D.word (9+hu.F))).1,some (D.tick.visit s hu (D.word (9+hu.F))).2):=rfl;rw[aU];clear hR hh0 fh hth Y aN HT aU;generalize D.tick.visit s hu (D.word (9+hu.F))=res at*;generalize D.word (9+hu.F)=hd at*;generalize hu.F=F at*;go_enter Tryz.func142,Tryz.ntmps142;go_wp2_with fail
 go_region_held3 (fun E=>zS E bh 0 A.V 0∧zT E bh 2 F∧zS E A.V 2 A.ba 0)
  (first|exact⟨h0,h2,e2⟩|assumption|exact HK.out _ (Kp.of (by assumption) (by assumption) (by assumption)))
  (first|(go_at_call 42;refine HL.out.mono ?_;rintro e H ⟨rfl,q1,q2⟩;have q4:=HG.out.trans q2;have q3:=bU.refl A s;clear q2)|(go_at_call 162;refine (HB.out _ (by assumption) (by assumption)).mono ?_;rintro e w2 ⟨A',v,rfl,p1,p2,p3,p4⟩;have p5:=(‹Grow A.L w A.L _›).trans p2))
 go_wp2_with fail;go_ret;exact⟨A',_,rfl,p1,p5,p3,p4⟩
theorem CF {D:St} {G:Nat} (hv:VL D G):D.kJ G=((D.tags.getD (ag G) (0,false)).2&&D.jR (ag G)==G):=by
 unfold St.kJ;have h1:decide (1<=G % 131072)=true:=by simpa using hv.lo
 have h2:decide (G % 131072<=D.aG)=true:=by simpa using hv.hi
 rw[h1,h2,Bool.true_and,Bool.true_and]
theorem Kc (hR:aF A D w) (G:Nat) (hv:VL D G) (htag:∀ i,i<D.aG->(D.tags.getD i (0,false)).1<=65535):
 zk 134 #[R A.bp 0,zu G] w fun e E=>e=.returned (.bool (D.kJ G))∧w=E:=by
 have hi:=iO hv;have hu:=Word.oW (G:Int) (by omega) (by have:=hv.u;omega) w;rw[<-qf hv.lo] at hu;have p0:w.cell? (J A.bp 0)=some (.slice (some (J A.bs 0)) D.aG D.aG):=hR.bP 0 rfl;have t1:=(hR.tag hi).2;rw[Nat.mul_comm] at t1;have hl:=Cu hR (ag G) hi (htag _ hi);have b0:(0:Int)<=(ag G:Int):=by omega
 have b1:(ag G:Int)<(D.aG:Int):=by omega
 rw[CF hv];have HU:=U hu;have HL:=U hl;clear hu hl hv htag hR hi;generalize ag G=i at*
 cases htk:(D.tags.getD i (0,false)).2 with
 |false=>
  rw[htk] at t1;clear htk;go_enter Tryz.func134,Tryz.ntmps134;go_wp2_with (go_at_call 107;refine HU.out.mono ?_;rintro e E ⟨rfl,rfl⟩);go_ret;exact⟨rfl,rfl⟩
 |true=>
  rw[htk] at t1;clear htk;rw[Bool.true_and];generalize D.jR i=la at*
  by_cases he:la=G
  . have d1:((la:Int)==(G:Int))=true:=by simp;omega
    have d2:(la==G)=true:=by simp;omega
    rw[d2];have d3:((la:Int)=(G:Int))=True:=by simp;omega
    clear d2 he;go_enter Tryz.func134,Tryz.ntmps134;go_wp2_with (first|(go_at_call 107;refine HU.out.mono ?_;rintro e E ⟨rfl,rfl⟩)|(go_at_call 158;refine HL.out.mono ?_;rintro e E ⟨rfl,rfl⟩));go_ret;exact⟨rfl,rfl⟩
  . have d1:((la:Int)==(G:Int))=false:=by simp;omega
    have d2:(la==G)=false:=by simp;omega
    rw[d2];have d3:((la:Int)=(G:Int))=False:=by simp;omega
    clear d2 he;go_enter Tryz.func134,Tryz.ntmps134;go_wp2_with (first|(go_at_call 107;refine HU.out.mono ?_;rintro e E ⟨rfl,rfl⟩)|(go_at_call 158;refine HL.out.mono ?_;rintro e E ⟨rfl,rfl⟩));go_ret;exact⟨rfl,rfl⟩
end Go.Proofs.YthicolbbmjfkfaaGreat.Em
namespace Go.Proofs.YthicolbbmjfkfaaGreat.Em
open Go.ChangeMaps Go.ChangeShapes Go.WideShapes Go.ChangeAt Go.RowKit En
theorem ER {A:az} {w:World} {s:Nat} {t:bL} (Z:w.heap[A.bm s]? =some (.map (iq A s t).toArray t.cells.length)) (F b:Nat) (hx:t.cell F=none):
 (Instr.mapUpdate 116 (.map (some (A.bm s))) (I F) (ptr b)).run Tryz.prog w=.ok () (setBlock w (A.bm s) (.map (iq A s t++[(⟨i64 F,ptr b,t.cells.length⟩:MapEntry)]).toArray (t.cells.length+1))):=by
 have hck:∀ e,(Instr.checkKey e 10000 3 (I F)).run Tryz.prog w=.ok () w:=by
  intro e;unfold Instr.checkKey;simp[run_underlying Tryz.underlying3]
 rw[yO] at Z ⊢
 rcases qh (A.bx s) F (t.cells.reverse.zipIdx.map fun p=>(p.1.1,p.2)) 0 with ⟨h1,h2⟩|⟨j,h1,h2⟩
 . clear h2 hx
   generalize (t.cells.reverse.zipIdx.map fun p=>(p.1.1,p.2)).map (Nl (A.bx s))=es at*;simp[Instr.mapUpdate,run_underlying Tryz.underlying116,run_underlying Tryz.underlying3,MapKept.run_getObj_map Z,hck,Instr.findKey,h1,MapKept.run_setObj_map _ Z,Result.andThen,setBlock]
 . have h3:=(tT t F).1 h2
   rw[hx] at h3
   cases h3
theorem yu {P:Program} {w E:World} {ops:Array Oper} {rest:List Oper} {o:Oper} {a:Act} {Q:Exit->Act->World->Prop}
 (hg:o.guard=none) (m x v:Operand) (t:TypeId) (hop:o.op=Op.mapUpdate t m x v) (aU:(Instr.mapUpdate t (a.eval m) (a.eval x) (a.eval v)).run P w=.ok () E)
 (hK:wpList P ops Q rest (a.put o.dst undef) E):wpList P ops Q (o::rest) a w:=by
 refine wpList_plain hg fun K' hK'=>?_
 unfold Oper.wp;simp[execOp,hop,aU,Result.andThen];exact hK' _ _ hK
theorem wm {w:World} {b:Nat} {es:Array MapEntry} {clock:Nat} (Z:w.heap[b]? =some (.map es clock)) (o:Obj):w.grownBy (setBlock w b o) (some b):=
 ⟨rfl,rfl,rfl,by simp[setBlock],fun i _ hi=>heap_setBlock_other Z _ (fun e=>hi (by rw[e]))⟩
def Qk (A:az) (w:World) (s F:Nat) (bF:St):Ending->World->Prop:=fun e E=>∃ b,e=.returned (ptr b)∧∃ A',aF A' bF E∧Grow A.L w A'.L E∧bU A A' s∧A'.bx s F=b∧A'.aX=A.aX
theorem wu {A:az} {D:St} {w:World} (hR:aF A D w) (s:Nat) (t:bL) (ht:D.ai.getD s none=some t) (F old:Nat) (hx:t.cell F=none) (Y:t.keys.length<1000000):
 zk 177 #[R (A.bt s) 0,I F,zu old] w (Qk A w s F (D.bS s F ⟨0,old,false⟩)):=by
 have Z:=hR.map ht;generalize Sg:w.alloc (.cells #[zu 0,zu old,.bool false] 225)=wa;have hbl:Below w.heap.size w wa:=by rw[<-Sg];exact (Below.refl _ _).alloc (zr _) _
 have hblk:wa.heap[w.heap.size]? =some (.cells (rU ⟨0,old,false⟩).toArray 225):=by rw[<-Sg];exact heap_alloc_new w _
 have ra:=hR.below hbl;have t7:=ra.fI ht 7 (v:=.map (some (A.bm s))) rfl;have hb1:=ra.map ht;have hup:=ER hb1 F w.heap.size hx;generalize hwb:setBlock wa (A.bm s) (.map (iq A s t++[(⟨i64 F,ptr w.heap.size,t.cells.length⟩:MapEntry)]).toArray (t.cells.length+1))=wb at hup;obtain⟨rb,gb⟩:=hR.kE hbl ht hx (zr _) ⟨0,old,false⟩ hblk (w2:=wb) (by rw[<-hwb];exact wm hb1 _) (by rw[<-hwb];exact heap_setBlock_same hb1 _) (by rw[<-hwb];simp[setBlock]);have ht2:(D.bM s {t with cells:=(F,⟨0,old,false⟩)::t.cells}).ai.getD s none=some {t with cells:=(F,⟨0,old,false⟩)::t.cells}:=by rw[dB (dA ht),aW rfl]
 have t6:wb.cell? (J (A.bt s) 6)=some (A.fu s):=rb.fI ht2 6 rfl;have z6:=rb.vP ht2 6;have rc:=rb.alloc (.cells #[I F] 3);have aY:=(rc.mem.all (.keys s))
 rw[mem_keys ht2] at aY;have ho:(wb.alloc (.cells #[I F] 3)).ownsRow 0 3 1 (A.fu s) t.keys.length (t.keys.map i64):=aY.1;obtain⟨av,jB,hv,_⟩:=Ow.bO ho;have e:D.bS s F ⟨0,old,false⟩=(D.bM s {t with cells:=(F,⟨0,old,false⟩)::t.cells}).bM s {t with cells:=(F,⟨0,old,false⟩)::t.cells,keys:=t.keys++[F]}:=by
  unfold St.bS St.bM;rw[cK ht];simp
 rw[e]
 have FN : Hid (∀ v' w2, w2.ownsRow 0 3 1 v' (t.keys.length + 1) (t.keys.map i64 ++ [I (F : Int)]) -> (wb.alloc (.cells #[I (F : Int)] 3)).grownBy w2 (A.fu s).ownBlock -> (v'.ownBlock = (A.fu s).ownBlock ∨ ∀ g, v'.ownBlock = some g -> (wb.alloc (.cells #[I (F : Int)] 3)).heap.size <= g) ->
     (∃ A',aF A' ((D.bM s {t with cells:=(F,⟨0,old,false⟩)::t.cells}).bM s {t with cells:=(F,⟨0,old,false⟩)::t.cells,keys:=t.keys++[F]}) (w2.setCell (J (A.bt s) 6) v')∧Grow A.L w A'.L (w2.setCell (J (A.bt s) 6) v')∧bU A A' s∧A'.bx s F=w.heap.size∧A'.aX=A.aX)∧w2.cell? (J (A.bt s) 6)=some (A.fu s)∧w2.frozen? (J (A.bt s) 6)=false):=by
  intro v' w2 q1 q2 q3;obtain⟨k1,k2,k3,k4⟩:=rc.P8 ht2 (t.keys++[F]) v' q2 (by simpa using q1) q3;refine⟨⟨_,k1,(gb.trans (Grow.alloc _ _ _)).trans k2,⟨rfl,rfl,rfl,rfl,rfl,rfl,rfl,rfl,rfl,rfl,rfl,fun k hk'=>?_,fun _ _=>rfl⟩,?_,rfl⟩,k3,k4⟩
  . funext j
    show (if k=s∧j=F then w.heap.size else A.bx k j)=A.bx k j;rw[bu (fun h=>hk' h.1)]
  . show (if s=s∧F=F then w.heap.size else A.bx s F)=w.heap.size
    rw[aW ⟨rfl,rfl⟩]
 have WY:=U hup;rw[<-Sg] at WY t7;rw[hv] at t6 ho FN;have HO:=U ho;have ZQ:wb.frozen? (J (A.bt s) 6)=false:=z6;have HZ:=U (show wb.heap.size=w.heap.size+1 by rw[<-hwb,<-Sg];simp[setBlock]);clear hR ht Z hbl hblk ra hb1 hup rb gb ht2 rc aY ho e hwb Sg hx z6;generalize hn:t.keys.length=n at*;have HN:=U Y;clear Y hn;obtain⟨ii,hii,hz0,hz1,hz2⟩:=info_parts Cs;go_enter Tryz.func177,Tryz.ntmps177;go_wp2_with (first|(refine yu rfl (.tmp 14) (.tmp 15) (.tmp 16) 116 rfl WY.out ?_)|(refine Ow.dZ _ rfl (.tmp 21) (.tmp 23) 36 rfl 0 _ ii _ 1 8 Tryz.underlying36 hii hz0 hz1 hz2 rfl (by decide) (.slice av n jB) n (t.keys.map i64) rfl HO.out (J wb.heap.size 0) 1 1 (by omega) [I F] rfl rfl (by intro j' u hu;exact Ow.iC _ [I F] _ _ rfl j' u hu) (by intro u hu;obtain rfl:=List.mem_singleton.1 hu;rfl) (by have:=HN.out;unfold maxLen;omega) (by have:=HN.out;omega) (zz _) ?_;intro v' w4 q1 q2 q3;obtain⟨k1,k2,k3⟩:=FN.out v' w4 q1 q2 q3;obtain⟨a4,cap4,rfl,_⟩:=Ow.bO q1;have K1:=U k1;clear k1 q1 q2 q3));go_ret;exact⟨_,rfl,K1.out⟩
end Go.Proofs.YthicolbbmjfkfaaGreat.Em
namespace Go.Proofs.YthicolbbmjfkfaaGreat.Em
open Go.ChangeShapes Go.WideShapes Go.ChangeAt Go.RowKit En
theorem lC.Ke {L L':eH} {w:World} {v:Value} {xs:List Value} (h:lC L w v xs) {b:Nat} (hL:∀ g,g≠b->L' g=L g) (Z:∀ cs,w.heap[b]? ≠some (.cells cs 152)):lC L' w v xs:=by
 obtain⟨⟨ad,n,cap,rfl,e2,e3,e4,e5⟩,h2⟩:=h;refine⟨⟨ad,n,cap,rfl,e2,e3,e4,?_⟩,h2⟩
 rcases e5 with h0|⟨g,off,rfl,e7,e8,e9⟩
 . exact .inl h0
 . rcases h2 g off n cap rfl with h0|⟨cs,hc⟩
   . exact .inl h0
   . refine .inr ⟨g,off,rfl,?_,e8,e9⟩
     rw[hL g (by rintro rfl;exact Z _ hc)];exact e7
theorem qU.Ke {L L':eH} {w:World} {b:Nat} (hL:∀ g,g≠b->L' g=L g) (Z:∀ cs,w.heap[b]? ≠some (.cells cs 152)):∀ {l:List Ev} {xs:List Value},qU L w l xs->qU L' w l xs
 |[],_,h=>h
 |_::_,_,⟨vp,ys,h1,h2,h3⟩=>⟨vp,ys,h1,h2.Ke hL Z,qU.Ke hL Z h3⟩
theorem qU.lab {L:eH} {w:World} {b:Nat} {cs:Array Value} {T:TypeId} {l:List Ev} {xs:List Value} (h:qU L w l xs) (he:w.heap[b]? =some (.cells cs T)) (hT:T≠152) (r:bW):qU (jy L b r) w l xs:=
 h.Ke (fun g hg=>eO hg) (fun cs' hc=>by rw[he] at hc;simp at hc;exact hT hc.2)
theorem qU.Ql {L:eH} {w:World} {b:Nat} {es:Array MapEntry} {k:Nat} {l:List Ev} {xs:List Value} (h:qU L w l xs) (he:w.heap[b]? =some (.map es k)) (r:bW):qU (jy L b r) w l xs:=
 h.Ke (fun g hg=>eO hg) (fun cs' hc=>by rw[he] at hc;simp at hc)
theorem aF.CG {A:az} {D:St} {w H:World} (h:aF A D H) (g0:Grow A.L w A.L H) {s b m:Nat} (R6:A.L b=none) (hfm:A.L m=none) (hs:s<8) (Z:w.heap.size<=b) (hm:w.heap.size<=m) (UA:b≠m) (t:bL) (h1:t.keys=[]) (h2:t.cells=[]) (h3:t.reads=[]) (h4:t.aR=[])
 (he:H.heap[b]? =some (.cells (fw (A.gJ s b m) s t).toArray 131)) (hmap:H.heap[m]? =some (.map #[] 0)) (hn:D.ai.getD s none=none):
 aF (A.gJ s b m) (D.bM s t) (H.setCell (J A.V (5+s)) (R b 0))∧Grow A.L w (A.gJ s b m).L (H.setCell (J A.V (5+s)) (R b 0)):=by
 have hlt:b<H.heap.size:=gH he;have U1:m<H.heap.size:=gH hmap;have n8:=h.n8;have hn2:=hn;rw[mM] at hn2;have k1:=h.mem.Ce (.fI s) R6 (.obj b (fw (A.gJ s b m) s t) 131) ⟨kG _ _ _,he⟩ hlt;have k2:=k1.Ce (.map s) (b:=m) ((eO (Ne.symm UA)).trans hfm) (.map m [] 0) ⟨kG _ _ _,hmap⟩ U1;have hE:(iI (iI (bB A D) (.fI s) (.obj b (fw (A.gJ s b m) s t) 131)) (.map s) (.map m [] 0)) .bT=.obj A.V (oz A D) 111:=rfl;have k3:=k2.put .bT hE (5+s) (R b 0);have g:Grow A.L w (A.gJ s b m).L (H.setCell (J A.V (5+s)) (R b 0)):=
  ((g0.jy Z _).jy hm _).trans (k2.df hE (5+s) _)
 have k4 : Holds (A.gJ s b m).L (H.setCell ⟨A.V, 5 + s, none⟩ (R b 0)) (fun q => match q with
     |.keys k=>if k=s then .own (.slice none 0 0) 3 1 0 [] else bB A D (.keys k)
     |.reads k=>if k=s then .own (.slice none 0 0) 250 3 0 [] else bB A D (.reads k)
     |.aR k=>if k=s then .own (.slice none 0 0) 3 1 0 [] else bB A D (.aR k)
     |q=>iI (iI (iI (bB A D) (.fI s) (.obj b (fw (A.gJ s b m) s t) 131)) (.map s) (.map m [] 0)) .bT (.obj A.V ((oz A D).set (5+s) (R b 0)) 111) q):=by
  refine⟨fun q=>?_,k3.fresh⟩;have k:=k3.all q
  cases q<;>first|exact k|skip
  all_goals
   rename_i j
   by_cases hj:j=s
   . subst hj
     simp only[aW];exact⟨World.ownsRow_nil _ 0 _ _,fun g hg=>by cases hg⟩
   . simp only[bu hj]
     simp[iI] at k;exact k
 refine⟨⟨k4.of_eq fun q=>?_,((h.ev.lab he (by decide) (.fI s)).Ql hmap (.map s)).grow (k2.df hE (5+s) _),h.sl,h.nw,h.nt,h.nv,by simpa [St.bM] using h.n8,h.nc⟩,g⟩;have gt:∀ k,(D.bM s t).ai.getD k none=if k=s then some t else D.ai.getD k none:=fun k=>dB (by omega) t k
 have tp:∀ k,(A.gJ s b m).tp (D.bM s t) k=if k=s then .pointer (some (J b 0)) else A.tp D k:=by
  intro k;unfold az.tp;rw[gt];by_cases Y:k=s
  . subst Y;simp[az.gJ]
  . simp[Y,az.gJ]
 cases hq:q.tx with
 |none=>
  cases q<;>first|rfl|(simp[bW.tx] at hq;done)|skip
  simp only[iI,aW,bB,oz,tp]
  match s,hs with
  |0,_|1,_|2,_|3,_|4,_|5,_|6,_|7,_=>rfl
 |some k=>
  rw[iL _ _ hq,gt]
  by_cases Y:k=s
  . subst Y
    rw[aW rfl]
    cases q<;>simp[bW.tx] at hq<;>subst hq<;>simp[gZ,iI,az.gJ,lq,h1,h2,h3,h4,iq,kC,bL.cell,bB,hn2]
  . rw[bu Y,<-iL _ D hq]
    have:=mO (A:=A) (A':={A.gJ s b m with bt:=A.bt}) (s:=s) ⟨rfl,rfl,rfl,rfl,rfl,rfl,rfl,rfl,rfl,rfl,rfl,rfl,rfl,rfl,rfl,rfl,rfl,fun k Y=>bu Y,fun _ _=>rfl,fun k Y=>bJ _ _ Y,fun k Y=>bJ _ _ Y,fun k Y=>bJ _ _ Y,fun k Y=>bu Y,fun k Y=>bu Y⟩ D (q:=q) (by rw[hq];simpa using Y);have e2:bB (A.gJ s b m) D q=bB {A.gJ s b m with bt:=A.bt} D q:=by
     cases q<;>simp[bW.tx] at hq<;>subst hq<;>simp[bB,az.gJ,Y,fw,iq]
    rw[e2,this]
    cases q<;>simp[bW.tx] at hq<;>subst hq<;>simp[iI,Y]
end Go.Proofs.YthicolbbmjfkfaaGreat.Em
