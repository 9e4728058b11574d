import Derived.Test.YthicolbbmjfkfaaGreatQn3
set_option linter.unusedVariables false
set_option linter.unusedSimpArgs false
set_option maxRecDepth 100000
set_option maxHeartbeats 1600000
namespace Go.Proofs.YthicolbbmjfkfaaGreat.Em
open Go.ChangeShapes Go.WideShapes Go.ChangeAt Go.RowKit En
variable {A:au} {D:St} {w:World}
theorem CQ:(Tryz.prog.info? 3).map (fun i=>(i.zero,i.size,i.bytes))=some (some (I 0),1,8):=by kernel_rfl
def oJ (A A':au):Prop:=∃ L v,A'={A with L:=L,eZ:=v}
def ic (D:St) (k:Nat):St:={D with free:=D.free++(List.range D.aF).reverse.take k}
theorem CR (D:St) (k:Nat) (Z:k<D.aF):(ic D (k+1)).free=(ic D k).free++[D.aF - 1 - k]:=by
 unfold ic;simp only;rw[List.take_succ_eq_append_getElem (by simpa using Z),List.append_assoc];simp
theorem oK (h:aC A D w):w.ownsRow 0 3 1 A.eZ D.free.length (D.free.map i64):=(h.mem.all .free).1
theorem zK (hR:aC A D w) (i:Nat):
 ∃ av jc,A.eZ=.slice av D.free.length jc∧∀ v' w2,w2.ownsRow 0 3 1 v' (D.free.length+1) (D.free.map i64++[I i])->(w.alloc (.cells #[I i] 3)).grownBy w2 A.eZ.ownBlock->(v'.ownBlock=A.eZ.ownBlock∨∀ g,v'.ownBlock=some g->(w.alloc (.cells #[I i] 3)).heap.size<=g)->
  (∃ A',oJ A A'∧aC A' {D with free:=D.free++[i]} (w2.setCell (J A.bp 2) v')∧Grow A.L w A'.L (w2.setCell (J A.bp 2) v'))∧w2.cell? (J A.bp 2)=some A.eZ∧w2.frozen? (J A.bp 2)=false∧(∀ b u,A.L b=none->w.cell? (J b 0)=some u->w2.cell? (J b 0)=some u):=by
 obtain⟨av,jc,hv,_⟩:=Ow.bN (oK hR);refine⟨av,jc,hv,fun v' w2 q1 q2 q3=>?_⟩;obtain⟨r1,g1,_⟩:=dA hR #[I i] 3;obtain⟨p1,p2,p3,p4⟩:=r1.QG (D.free++[i]) v' q2 (by simpa using q1) q3;refine⟨⟨_,⟨_,_,rfl⟩,p1,g1.trans p2⟩,p3,p4,fun b u hl hc=>?_⟩;have hc1:(w.alloc (.cells #[I i] 3)).cell? (J b 0)=some u:=by
  rw[World.cell?_alloc_past _ _ _ (World.block_lt_of_cell? w _ hc)];exact hc
 refine q2.cell hc1 fun e=>?_
 have:=(hR.mem.all .free).2 b e.symm;rw[hl] at this
 cases this
theorem Ja (hR:aC A D w) (b0:Nat) (B0:aN A.L w b0 (R A.bp 0)) (hn:D.free.length<100000):
 zk 161 #[R b0 0] w fun e E=>e=.returned (.tuple #[])∧∃ A',oJ A A'∧aC A' (ic D D.aF) E∧Grow A.L w A'.L E:=by
 have c0:=B0.cell;have p0:w.cell? (J A.bp 0)=some (.slice (some (J A.bs 0)) D.aF D.aF):=hR.bO 0 rfl;have hsl:=hR.sl;have HR:=zH hR;have HB:=zH B0;have HN:=zH (zA hn hsl);have hw1:IntKind.i64.wrap ((D.aF:Int) - 1)=(D.aF:Int) - 1:=by rw[jG];omega
 clear hR B0 hn hsl;go_enter Tryz.func161,Tryz.ntmps161;go_wp2_with fail
 go_loopw [1] (fun i wr=>∃ k:Nat,k<=D.aF∧i=I ((D.aF:Int) - 1 - (k:Int))∧∃ A',oJ A A'∧aC A' (ic D k) wr∧Grow A.L w A'.L wr) (fun i _=>(intOf i+1).toNat)
 case atStart=>exact⟨0,zz _,by simp,A,⟨_,_,rfl⟩,by simpa [ic] using HR.out,Grow.refl _ _⟩
 case round=>
  obtain⟨k,Z,rfl,A',⟨L',v1,rfl⟩,hr,hg⟩:=hrel
  by_cases hlt:k<D.aF
  . obtain⟨j,hj⟩:∃ j:Nat,j=D.aF - 1 - k:=⟨_,rfl⟩
    have ej:(D.aF:Int) - 1 - (k:Int)=(j:Int):=by omega
    rw[ej];have d1:(0:Int)<=(j:Int):=by omega
    have d2:IntKind.i64.wrap ((j:Int) - 1)=(j:Int) - 1:=by rw[jG];have:=HN.out.2;omega
    have B1:=HB.out.grow hg;obtain⟨av,jc,hv,hstep⟩:=zK hr j;obtain⟨r1,g1,_⟩:=dA hr #[I j] 3;have c0:=B1.cell;have c1:=(B1.grow g1).cell;have hb0:L' b0=none:=by obtain⟨_,hx⟩:=B1;exact hx.1
    have HB0:=zH (zA hb0 c0);clear hb0;have p2:wr.cell? (J A.bp 2)=some v1:=hr.bO 2 rfl;have p3:(wr.alloc (.cells #[I j] 3)).cell? (J A.bp 2)=some v1:=r1.bO 2 rfl;have aU:(wr.alloc (.cells #[I j] 3)).ownsRow 0 3 1 v1 (ic D k).free.length ((ic D k).free.map i64):=oK r1;have hv':v1=.slice av (ic D k).free.length jc:=hv;have hfl:(ic D k).free.length=D.free.length+k:=by unfold ic;simp;omega
    rw[hv'] at p2 p3 aU;have HST:=zH hstep;have HV:=zH hv';have HO:=zH aU;have HL:=zH (zA hlt (zA hj (zA ej (zA hfl hg))));have hlen:(ic D k).free.length<200000:=by have:=HN.out.1;have:=HN.out.2;omega
    clear hr hg B1 r1 g1 hstep hv hv' aU hfl hlt hj ej Z;generalize (ic D k).free.length=len at*;obtain⟨i0,hi,hz0,hz1,hz2⟩:=info_parts CQ;go_wp2_with fail
    go_region_law (first|(refine Ow.mP _ (.tmp 16) (.tmp 18) 36 rfl 0 _ i0 _ 1 8 Tryz.underlying36 hi hz0 hz1 hz2 rfl (by decide) (.slice av len jc) len ((ic D k).free.map i64) rfl HO.out (J wr.heap.size 0) 1 1 (by omega) [I j] rfl rfl (by intro j' u hu;exact Ow.iw wr [I j] _ _ rfl j' u hu) (by intro u hu;obtain rfl:=List.mem_singleton.1 hu;rfl) (by unfold maxLen;omega) (by omega) (zz _) ?_;intro v' w2 q1 q2 q3;obtain⟨r1,r2,r3,r4⟩:=HST.out v' w2 q1 (by show (wr.alloc _).grownBy w2 v1.ownBlock;rw[HV.out];exact rP q2) (by show v'.ownBlock=v1.ownBlock∨_;rw[HV.out];exact q3);obtain⟨a4,cap4,rfl,_⟩:=Ow.bN q1;have R1:=zH r1;have c02:=r4 b0 _ HB0.out.1 HB0.out.2;clear r1 r4 q1 q2 q3))
    all_goals
     go_wp2_with fail
     go_roundw
     case rel=>
      obtain⟨h1,h2,h3,h4,h5⟩:=HL.out;obtain⟨A2,⟨L2,v2,rfl⟩,q1,q2⟩:=R1.out;refine⟨k+1,by omega,by rw[show (D.aF:Int) - 1 - ((k+1:Nat):Int)=(j:Int) - 1 by omega],_,⟨L2,v2,rfl⟩,?_,h5.trans q2⟩;have e:ic D (k+1)={ic D k with free:=(ic D k).free++[j]}:=by
       have:=CR D k h1;unfold ic at this ⊢;simp only at this ⊢;rw[this,h2]
      rw[e];exact q1
     case measure=>simp[intOf]<;>omega
  . obtain rfl:k=D.aF:=by omega
    have em:(D.aF:Int) - 1 - (D.aF:Int)=-1:=by omega
    rw[em];have HL:=zH (zA hr hg);clear hr hg hlt Z em;go_wp2_with fail
    go_end0
    exact⟨rfl,_,⟨L',v1,rfl⟩,HL.out.1,HL.out.2⟩
structure qB (A A':au):Prop where
 ex:∃ L v m,A'={A with L:=L,eZ:=v,mp:=m}
 mp:A'.mp=A.mp
theorem qB.refl (A:au):qB A A:=⟨⟨_,_,_,rfl⟩,rfl⟩
def QJ (A:au) (w:World) (bB:St) (v:Value):Ending->World->Prop:=fun e E=>e=.returned v∧∃ A',qB A A'∧aC A' bB E∧Grow A.L w A'.L E
theorem KO (hR:aC A D w) (hm:A.mp=0) (hn:D.free.length<100000):
 zk 137 #[R A.bp 0] w (QJ A w D.list (.tuple #[])):=by
 obtain⟨r1,g1,f0⟩:=dA hR #[R A.bp 0] 102;have c0:=f0.cell 0 (v:=R A.bp 0) rfl
 by_cases hl:D.listed=true
 . have p4:(w.alloc (.cells #[R A.bp 0] 102)).cell? (J A.bp 4)=some (.int .u32 1):=r1.bO 4 (by simp[mo,jb,hl])
   have hd:=Ic (J A.bp 4) (.func (.func 161) #[] #[R w.heap.size 0]) _ p4;have e:D.list=D:=by unfold St.list;rw[aV hl]
   rw[e];have HR:=zH (zA r1 g1);have HD:=zH hd;clear hR r1 g1 f0 hd e hl hn p4 hm;go_enter Tryz.func137,Tryz.ntmps137;go_wp2_with (go_at_call 146;refine HD.out.mono ?_;rintro e E ⟨rfl,rfl⟩)
   go_end0
   exact⟨rfl,A,qB.refl A,HR.out.1,HR.out.2⟩
 . have hl':D.listed=false:=by simpa using hl
   have p4:(w.alloc (.cells #[R A.bp 0] 102)).cell? (J A.bp 4)=some (.int .u32 0):=r1.bO 4 (by simp[mo,jb,hl']);have p5:(w.alloc (.cells #[R A.bp 0] 102)).cell? (J A.bp 5)=some (.int .i32 0):=r1.bO 5 (by simp[mo,jb,hm]);obtain⟨r2,g2⟩:=r1.CF 1;have hb:=Ja r2 w.heap.size (f0.box.grow g2) hn;have hd:=CP A.bp 4 161 #[R w.heap.size 0] (w.alloc (.cells #[R A.bp 0] 102))
    (fun E=>∃ A',oJ {A with mp:=1} A'∧aC A' (ic D D.aF) E∧Grow A.L w A'.L E) p4 p5 (r1.wQ 4) (r1.wQ 5) (Fs _)
    (hb.mono fun e E ⟨h1,A',h2,h3,h4⟩=>⟨h1,A',h2,h3,(g1.trans g2).trans h4⟩)
    (by
      rintro E ⟨A',⟨L,v,rfl⟩,h3,h4⟩
      exact⟨h3.bO 4 (by simp[mo,jb,ic,hl']),h3.bO 5 (by simp[mo,jb]),h3.wQ 4,h3.wQ 5⟩)
   have e:D.list={ic D D.aF with listed:=true}:=by
    have ht:(List.range D.aF).reverse.take D.aF=(List.range D.aF).reverse:=List.take_of_length_le (by simp);unfold St.list ic;rw[aR hl,ht]
   rw[e];have HD:=zH hd;have HM:=zH hm;clear hR r1 g1 f0 hd e hl hn p4 p5 r2 g2 hb hl' hm;go_enter Tryz.func137,Tryz.ntmps137;go_wp2_with (go_at_call 146;refine HD.out.mono ?_;rintro e E ⟨rfl,w2,⟨A',⟨L,v,rfl⟩,h3,h4⟩,rfl⟩)
   go_end0
   obtain⟨k1,q1⟩:=h3.drew.Kz;obtain⟨k2,q2⟩:=k1.CF 0;exact⟨rfl,_,⟨⟨L,v,0,rfl⟩,HM.out.symm⟩,k2,((h4.trans (Grow.drew _ _)).trans q1).trans q2⟩
theorem CU (hR:aC A D w) (i:Nat) (hi:i<D.aF) (ht:(D.tags.getD i (0,false)).1<=65535):
 zk 158 #[R A.bp 0,I i] w fun e E=>e=.returned (zu ((D.jH i:Nat):Int))∧w=E:=by
 have p0:w.cell? (J A.bp 0)=some (.slice (some (J A.bs 0)) D.aF D.aF):=hR.bO 0 rfl;have t0:=(hR.tag hi).1;have t0':=t0;rw[Nat.mul_comm] at t0';have hsl:=hR.sl;have e:((D.jH i:Nat):Int)=((D.tags.getD i (0,false)).1:Int)*131072+((i:Int)+1):=by unfold St.jH rO;omega
 have Z:=Word.KE (i:Int) ((D.tags.getD i (0,false)).1:Int) (by omega) (by omega) (by omega) (by omega) w;rw[e];have b1:(i:Int)<(D.aF:Int):=by omega
 have b0:(0:Int)<=(i:Int):=by omega
 have HK:=zH Z;clear hR hi ht hsl e Z;generalize (D.tags.getD i (0,false)).1=tg at*;generalize D.aF=n at*;go_enter Tryz.func158,Tryz.ntmps158;go_wp2_with (go_at_call 178;refine HK.out.mono ?_;rintro e E ⟨rfl,rfl⟩);go_ret;exact⟨rfl,rfl⟩
theorem CV {w:World} {e:TypeId} {n:Nat} {v:Value} {xs:List Value} (h:w.ownsRow 0 e 1 v n xs) (hn:0<n):∃ g cap,v=.slice (some (J g 0)) n cap∧n<=cap∧cap<=9223372036854775807∧w.ownsRow 0 e 1 (.slice (some (J g 0)) (n - 1) cap) (n - 1) xs.dropLast∧(∀ j u,xs[j]? =some u->w.cell? (J g j)=some u):=by
 have hc:=fun g hg=>h.cells (g:=g) hg
 rcases h.2 with ⟨rfl,h0⟩|⟨g,cap,cur,rfl,hb,hg,hnc,hcm,hcs,htake⟩
 . omega
 . have hcm':=hcm
   unfold maxLen at hcm';refine⟨g,cap,rfl,hnc,hcm',⟨by rw[List.length_dropLast,h.1];omega,.inr ⟨g,cap,cur,rfl,hb,hg,by omega,hcm,hcs,?_⟩⟩,fun j u hj=>?_⟩
   . rw[<-htake,List.dropLast_eq_take,List.take_take]
     congr 1
     have:(cur.toList.take (n*1)).length=n:=by rw[htake,h.1];omega
     omega
   . have:=hc g rfl j u hj
     have hadd:((J g 0):Addr).add j=(J g j):=by unfold Addr.add;split<;>simp_all
     rw[hadd] at this;exact this
def Be:Option Nat->Value
 |some l=>.tuple #[zu l,I 0]
 |none=>.tuple #[zu 0,I 15]
theorem zL {D:St} (h:D.list.free.getLast? =none):D.take=(D.list,none):=by unfold St.take;simp only[h]
theorem zM {D:St} {i:Nat} (h:D.list.free.getLast? =some i):D.take=({D.list with free:=D.list.free.dropLast,tags:=D.list.tags.set i ((D.list.tags.getD i (0,false)).1,true)},some (D.list.jH i)):=by unfold St.take;simp only[h]
theorem KQ (hR:aC A D w) (hm:A.mp=0) (hn:D.free.length<100000) (hfree:∀ i∈D.list.free,i<D.aF) (htag:∀ i,i<D.aF->(D.tags.getD i (0,false)).1<=65535):
 zk 167 #[R A.bp 0] w fun e E=>
  e=.returned (Be D.take.2)∧∃ A',qB A A'∧aC A' D.take.1 E∧Grow A.L w A'.L E:=by
 have hl:=KO hR hm hn;have hsl:D.list.aF=D.aF:=by unfold St.list;split<;>rfl
 have KR:D.list.tags=D.tags:=by unfold St.list;split<;>rfl
 have hb1:D.list.free.length<200000:=by
  have:=hR.sl;unfold St.list
  split
  . omega
  . simp;omega
 have HL:=zH hl;have HF:=zH (zA hfree (zA htag (zA hsl KR)));have HS:=zH hR.sl;clear hR hm hn hfree htag hl hsl KR
 cases hlast:D.list.free.getLast? with
 |none=>
  rw[zL hlast];generalize D.list=aH at*;have hnil:aH.free=[]:=by simpa using hlast
  have HN:=zH hnil;clear hlast hnil;go_enter Tryz.func167,Tryz.ntmps167;go_wp2_with (go_at_call 137;refine HL.out.mono ?_;rintro e Y ⟨rfl,A1,⟨⟨L1,v1,m1,rfl⟩,hm1⟩,q1,q2⟩;have p2:Y.cell? (J A.bp 2)=some v1:=q1.bO 2 rfl;have aU:=oK q1;rw[HN.out] at aU;obtain⟨av,jc,hv,_⟩:=Ow.bN aU;have hv':v1=.slice av 0 jc:=hv;rw[hv'] at p2;have HQ:=zH (zA q1 (zA q2 hm1));clear q1 q2 aU hv hv' hm1)
  go_ret2
  exact⟨rfl,_,⟨⟨_,_,_,rfl⟩,HQ.out.2.2⟩,HQ.out.1,HQ.out.2.1⟩
 |some i=>
  rw[zM hlast];generalize D.list=aH at*;have hmem:i∈aH.free:=List.mem_of_getLast? hlast;have hne:aH.free≠[]:=by rintro h;rw[h] at hmem;cases hmem
  have hpos:0<aH.free.length:=List.length_pos_iff.2 hne;have hat:(aH.free.map i64)[aH.free.length - 1]? =zt i:=by
   rw[List.getElem?_map,<-List.getLast?_eq_getElem?,hlast];rfl
  have hdrop:(aH.free.map i64).dropLast=aH.free.dropLast.map i64:=List.map_dropLast.symm;have hdl:aH.free.dropLast.length=aH.free.length - 1:=by simp
  have hi:i<D.aF:=HF.out.1 i hmem;have XT:(aH.tags.getD i (0,false)).1<=65535:=by rw[HF.out.2.2.2];exact HF.out.2.1 i hi
  have hs1:aH.aF=D.aF:=HF.out.2.2.1;have FACT:Hid (∀ L1 v1 m1 Y,aC {A with L:=L1,eZ:=v1,mp:=m1} aH Y->∃ g cap,v1=.slice (some (J g 0)) aH.free.length cap∧aH.free.length<=cap∧cap<=9223372036854775807∧Y.cell? (J A.bp 2)=some (.slice (some (J g 0)) aH.free.length cap)∧Y.frozen? (J A.bp 2)=false∧Y.cell? ⟨g,aH.free.length - 1,none⟩=zt i∧Y.cell? (J A.bp 0)=some (.slice (some (J A.bs 0)) D.aF D.aF)):=by
   intro L1 v1 m1 Y q1;obtain⟨g,cap,e1,e2,e3,e4,e5⟩:=CV (oK q1) hpos;have XU:v1=.slice (some (J g 0)) aH.free.length cap:=e1;refine⟨g,cap,XU,e2,e3,by rw[<-XU];exact q1.bO 2 rfl,q1.wQ 2,e5 _ _ hat,by rw[<-hs1];exact q1.bO 0 rfl⟩
  have FIN:Hid (∀ L1 v1 m1 Y g cap,aC {A with L:=L1,eZ:=v1,mp:=m1} aH Y->v1=.slice (some (J g 0)) aH.free.length cap->∀ w2,w2=Y.setCell (J A.bp 2) (.slice (some (J g 0)) (aH.free.length - 1) cap)->aC {A with L:=L1,eZ:=.slice (some (J g 0)) (aH.free.length - 1) cap,mp:=m1} {aH with free:=aH.free.dropLast} w2∧Grow L1 Y L1 w2):=by
   rintro L1 v1 m1 Y g cap q1 rfl w2 rfl;obtain⟨g',cap',e1,e2,e3,e4,e5⟩:=CV (oK q1) hpos;simp only[Value.slice.injEq,Option.some.injEq,Addr.mk.injEq,and_true,true_and] at e1;obtain⟨rfl,rfl⟩:=e1;exact q1.NG aH.free.dropLast _ (by rw[hdl,<-hdrop];exact e4) rfl
  have hlk:({aH with free:=aH.free.dropLast,tags:=aH.tags.set i ((aH.tags.getD i (0,false)).1,true)}:St).jH i=aH.jH i∧(({aH with free:=aH.free.dropLast,tags:=aH.tags.set i ((aH.tags.getD i (0,false)).1,true)}:St).tags.getD i (0,false)).1=(aH.tags.getD i (0,false)).1:=by
   by_cases hlt:i<aH.tags.length
   . unfold St.jH
     simp only[kH _ _ _ _ _ hlt,aV];exact⟨trivial,trivial⟩
   . unfold St.jH
     simp[List.set_eq_of_length_le (by omega:aH.tags.length<=i)]
  have AFTER : Hid (∀ L1 m1 Y g cap, aC { A with L := L1, eZ := .slice (some (J g 0)) aH.free.length cap, mp := m1 } aH Y ->
      (Y.setCell (J A.bp 2) (.slice (some (J g 0)) (aH.free.length - 1) cap)).cell? ⟨A.bs,i*2+1,none⟩=some (.bool (aH.tags.getD i (0,false)).2)∧(Y.setCell (J A.bp 2) (.slice (some (J g 0)) (aH.free.length - 1) cap)).frozen? ⟨A.bs,i*2+1,none⟩=false∧
      aC {A with L:=L1,eZ:=.slice (some (J g 0)) (aH.free.length - 1) cap,mp:=m1} {aH with free:=aH.free.dropLast,tags:=aH.tags.set i ((aH.tags.getD i (0,false)).1,true)} ((Y.setCell (J A.bp 2) (.slice (some (J g 0)) (aH.free.length - 1) cap)).setCell ⟨A.bs,i*2+1,none⟩ (.bool true))∧
      Grow L1 Y L1 ((Y.setCell (J A.bp 2) (.slice (some (J g 0)) (aH.free.length - 1) cap)).setCell ⟨A.bs,i*2+1,none⟩ (.bool true))∧
      zk 158 #[R A.bp 0,I i] ((Y.setCell (J A.bp 2) (.slice (some (J g 0)) (aH.free.length - 1) cap)).setCell ⟨A.bs,i*2+1,none⟩ (.bool true)) fun e E=>e=.returned (zu ((aH.jH i:Nat):Int))∧((Y.setCell (J A.bp 2) (.slice (some (J g 0)) (aH.free.length - 1) cap)).setCell ⟨A.bs,i*2+1,none⟩ (.bool true))=E):=by
   rw[show i*2+1=2*i+1 by omega];intro L1 m1 Y g cap q1;obtain⟨r2,g2⟩:=FIN.out L1 _ m1 Y g cap q1 rfl _ rfl;have hi':i<({aH with free:=aH.free.dropLast}:St).aF:=by show i<aH.aF;omega
   obtain⟨r3,g3⟩:=r2.CE hi' true;have CW:=CU r3 i hi' (by rw[show (({aH with free:=aH.free.dropLast,tags:=aH.tags.set i ((aH.tags.getD i (0,false)).1,true)}:St).tags.getD i (0,false)).1=_ from hlk.2];exact XT);rw[show _=aH.jH i from hlk.1] at CW;exact⟨(r2.tag hi').2,r2.QE _,r3,g2.trans g3,CW⟩
  have b1:(0:Int)<=(i:Int):=by omega
  have b2:(i:Int)<(D.aF:Int):=by omega
  have d1:((aH.free.length:Int)==0)=false:=by simp;omega
  have d2:((aH.free.length:Int)=0)=False:=by simp;omega
  have d3:(aH.free.length==0)=false:=by simp;omega
  have n1:(1:Int)<=(aH.free.length:Int):=by omega
  have n2:(aH.free.length:Int)<200000:=by omega
  have n3:((aH.free.length:Int) - 1).toNat=aH.free.length - 1:=by omega
  have n4:IntKind.i64.wrap ((aH.free.length:Int) - 1)=(aH.free.length:Int) - 1:=by rw[jG];omega
  clear hlast hmem hne hat hdrop hdl hi XT hs1 hlk hb1 hpos FIN;generalize hlen:aH.free.length=n at*;have n5:(n:Int) - 1<(n:Int):=by omega
  have n6:(0:Int)<=(n:Int) - 1:=by omega
  clear hlen n2;go_enter Tryz.func167,Tryz.ntmps167;go_wp2_with (first|(go_at_call 137;refine HL.out.mono ?_;rintro e Y ⟨rfl,A1,⟨⟨L1,v1,m1,rfl⟩,hm1⟩,q1,q2⟩;obtain⟨g,cap,rfl,f1,f2,p2,z2,pc,p0⟩:=FACT.out L1 v1 m1 Y q1;obtain⟨t1,z1,r3,g3,CW⟩:=AFTER.out L1 m1 Y g cap q1;have YP:=zH CW;have HQ:=zH (zA r3 (zA (q2.trans g3) hm1));clear q1 q2 r3 g3 hm1 CW)|(go_at_call 158;refine YP.out.mono ?_;rintro e E ⟨rfl,rfl⟩))
  go_ret2
  exact⟨rfl,_,⟨⟨_,_,_,rfl⟩,HQ.out.2.2⟩,HQ.out.1,HQ.out.2.1⟩
theorem NS (hR:aC A D w) (s:Nat):
 zk 131 #[R A.H 0,R (A.bt s) 0,R (A.bc s) 0,zu 0] w (bE A w s (D,.fresh 0)):=zF hR s 0
theorem KU (hR:aC A D w) (s:Nat) (t:bL) (ht:D.aj.getD s none=some t) (c:dN) (hc:D.calls.getD s none=some c) (F G b0 b1 b2 b3:Nat) (Z:c.op.F=F)
 (B0:aN A.L w b0 (R (A.bc s) 0)) (B1:aN A.L w b1 (R (A.bt s) 0)) (B2:aN A.L w b2 (I F)) (B3:aN A.L w b3 (R A.H 0))
 (at_:Nat) (hn:t.reads.length<1000000):
 zk 130 #[zu G,R b0 0,R b1 0,R b2 0,R b3 0] w (bE A w s (D.thn s ⟨F,at_,.change⟩ G)):=by
 have c0:=B0.cell;have c1:=B1.cell;have c2:=B2.cell;have c3:=B3.cell;have k0:w.cell? (J (A.bc s) 0)=zt c.op.kind:=hR.call hc 0 rfl;have hcg:=bu hc;have hr:=oH hR s t ht F G false hn;have HR:=zH hr;have HB:=zH (zA B0 (zA B1 (zA B2 B3)));have HX:=zH hR;have e0:D.thn s ⟨F,at_,.change⟩ G=if G≠0∧c.op.kind=2 then (D.read s F G false,.fin {e:=12}) else if G=0∧c.op.kind≠2 then (D.read s F G false,.fin {e:=11}) else if G=0 then (D,.fresh 0) else (D,.own G):=by
  simp only[St.thn,hcg,Z]
 rw[e0];clear e0 hR ht hn hr B0 B1 B2 B3 hc hcg Z;generalize c.op.kind=kd at*
 by_cases h0:G=0
 . by_cases h2:kd=2
   . rw[aR (by omega),aR (by omega),aV h0]
     have d1:((G:Int)==0)=true:=by simpa using h0
     have d2:((G:Int) !=0)=false:=by simpa using h0
     have d3:((G:Int)=0)=True:=by simpa using h0
     have f1:((kd:Int)==2)=true:=by simp;omega
     have f2:((kd:Int) !=2)=false:=by simp;omega
     have f3:((kd:Int)=2)=True:=by simp;omega
     clear h0 h2;go_enter Tryz.func130,Tryz.ntmps130;go_wp2_with (go_at_call 131;refine (NS HX.out s).mono ?_;rintro e w2 ⟨A2,v,rfl,p1,p2,p3,p4⟩);go_ret;exact⟨A2,v,rfl,p1,p2,p3,p4⟩
   . rw[aR (by omega),aV (by omega)]
     have d1:((G:Int)==0)=true:=by simpa using h0
     have d2:((G:Int) !=0)=false:=by simpa using h0
     have d3:((G:Int)=0)=True:=by simpa using h0
     have f1:((kd:Int)==2)=false:=by simp;omega
     have f2:((kd:Int) !=2)=true:=by simp;omega
     have f3:((kd:Int)=2)=False:=by simp;omega
     clear h0 h2;go_enter Tryz.func130,Tryz.ntmps130;go_wp2_with (first|(go_at_call 116;refine HR.out.mono ?_;rintro e Y ⟨rfl,A1,q1,q2,q3,q4,q5⟩;have c0:=(HB.out.1.grow q2).cell;have c3:=(HB.out.2.2.2.grow q2).cell;have HE:=zH (jf q1 s {e:=11} 11 0 0 0 (.slice none 0 0) rfl (.inr ⟨rfl,rfl⟩));rw[q3.H,q3.bc] at HE;have HQ:=zH (zA q2 q3);clear q1 q2 q3 q4 q5)|(go_at_call 113;refine HE.out.mono ?_;rintro e w2 ⟨A2,v,rfl,p1,p2,p3,p4⟩));go_ret;exact⟨A2,v,rfl,p1,HQ.out.1.trans p2,HQ.out.2.trans p3,p4⟩
 . by_cases h2:kd=2
   . rw[aV (by omega)]
     have d1:((G:Int)==0)=false:=by simpa using h0
     have d2:((G:Int) !=0)=true:=by simpa using h0
     have d3:((G:Int)=0)=False:=by simpa using h0
     have f1:((kd:Int)==2)=true:=by simp;omega
     have f2:((kd:Int) !=2)=false:=by simp;omega
     have f3:((kd:Int)=2)=True:=by simp;omega
     clear h0 h2;go_enter Tryz.func130,Tryz.ntmps130;go_wp2_with (first|(go_at_call 116;refine HR.out.mono ?_;rintro e Y ⟨rfl,A1,q1,q2,q3,q4,q5⟩;have c0:=(HB.out.1.grow q2).cell;have c3:=(HB.out.2.2.2.grow q2).cell;have HE:=zH (jf q1 s {e:=12} 12 0 0 0 (.slice none 0 0) rfl (.inr ⟨rfl,rfl⟩));rw[q3.H,q3.bc] at HE;have HQ:=zH (zA q2 q3);clear q1 q2 q3 q4 q5)|(go_at_call 113;refine HE.out.mono ?_;rintro e w2 ⟨A2,v,rfl,p1,p2,p3,p4⟩));go_ret;exact⟨A2,v,rfl,p1,HQ.out.1.trans p2,HQ.out.2.trans p3,p4⟩
   . rw[aR (by omega),aR (by omega),aR h0]
     have d1:((G:Int)==0)=false:=by simpa using h0
     have d2:((G:Int) !=0)=true:=by simpa using h0
     have d3:((G:Int)=0)=False:=by simpa using h0
     have f1:((kd:Int)==2)=false:=by simp;omega
     have f2:((kd:Int) !=2)=true:=by simp;omega
     have f3:((kd:Int)=2)=False:=by simp;omega
     clear h0 h2;go_enter Tryz.func130,Tryz.ntmps130;go_wp2_with (go_at_call 132;refine (Hz HX.out s G).mono ?_;rintro e w2 ⟨A2,v,rfl,p1,p2,p3,p4⟩);go_ret;exact⟨A2,v,rfl,p1,p2,p3,p4⟩
theorem flip {P:Program} {f:FuncId} {args:Array Value} {w:World} {v:Value} (h:Calls P f args w fun e E=>e=.returned v∧w=E):Calls P f args w fun e E=>e=.returned v∧E=w:=h.mono fun _ _ h=>⟨h.1,h.2.symm⟩
theorem rD (w:World):zk 127 #[] w fun e E=>e=.returned (zu ((ever:Nat):Int))∧E=w:=flip (Word.qp w)
theorem NT (hR:aC A D w) (s:Nat) (t:bL) (ht:D.aj.getD s none=some t) (b0 b1 b2 b3 b4 b5:Nat) (x:Bool) (G head:Nat)
 (B0:aN A.L w b0 (R A.H 0)) (B1:aN A.L w b1 (zu G)) (B2:aN A.L w b2 (R (A.bt s) 0)) (B3:aN A.L w b3 ((kp A D s).xo x)) (B4:aN A.L w b4 (R (A.bc s) 0)) (B5:jO A.L w b5 x head)
 (hc:D.count<4000000000000000000) (hv:VL D G) (h1:1<=t.id) (h2:t.id<=65535):
 zk 168 #[R b0 0,R b1 0,R b2 0,R b3 0,R b4 0,R b5 0] w (kY A w s (D.run s (.fB x G head))):=by
 have c0:=B0.cell;have c1:=B1.cell;have c2:=B2.cell;have c3:=B3.cell;have c4:=B4.cell;have e2:=hR.z2;have hsl:=hR.sl;have G0:Grow A.L w A.L w.drew:=Grow.drew _ _;have HS:=zH (flip (eQ G 0 0 rfl hv.lo (by have:=hv.hi;omega) hv.u (by omega) w.drew));have HM:=zH (flip (qz hR.drew s t ht h1 h2));have HL:=zH (fT hR.drew (af G 0) (mine t) (dO hR hv.lo hv.hi (by omega)) hc);have aX:D.run s (.fB x G head)=(D.put (af G 0) (mine t),some (.dZ x G head)):=by simp only[St.run,cK ht]
 rw[aX];clear aX ht hv h1 h2;have HG:=zH G0;have HB:=zH ((zA B0 (zA B1 (zA B2 (zA B3 (zA B4 B5))))));clear hR hsl hc G0 B0 B1 B2 B3 B4 B5;go_enter Tryz.func168,Tryz.ntmps168;go_wp2_with fail;refine wp_region_still_tail 8 (by kernel_rfl) (by kernel_rfl) ?_;simp only[jS,jT,jU,jV]
 repeat still_step
 still_call HS.out
 repeat still_step
 still_call HM.out
 repeat still_step
 refine wpStill_nil ?_;change wpList _ _ _ _ _ w.drew;generalize w.drew=wd at*;go_wp2_with (go_at_call 47;refine HL.out.mono ?_;rintro e Y ⟨rfl,q1,q2⟩);go_ret;obtain⟨B0,B1,B2,B3,B4,B5⟩:=HB.out;exact⟨A,_,rfl,q1,HG.out.trans q2,bT.refl _ _,_,_,_,_,_,_,rfl,B0.grow (HG.out.trans q2),B1.grow (HG.out.trans q2),B3.grow (HG.out.trans q2),B2.grow (HG.out.trans q2),B4.grow (HG.out.trans q2),B5.grow (HG.out.trans q2)⟩
theorem QK (hR:aC A D w) (s:Nat) (t:bL) (ht:D.aj.getD s none=some t) (b0 b1 b2 b3 b4:Nat) (G head:Nat)
 (B0:aN A.L w b0 (R A.H 0)) (B1:aN A.L w b1 (zu G)) (B2:aN A.L w b2 (zu head)) (B3:aN A.L w b3 (R (A.bc s) 0)) (B4:aN A.L w b4 (R (A.bt s) 0))
 (hc:D.count<4000000000000000000) (hv:VL D G):
 zk 190 #[R b0 0,R b1 0,R b2 0,R b3 0,R b4 0] w (kY A w s (D.run s (.push G head))):=by
 have c0:=B0.cell;have c1:=B1.cell;have c2:=B2.cell;have c3:=B3.cell;have c4:=B4.cell;have e2:=hR.z2;have hsl:=hR.sl;have G0:Grow A.L w A.L w.drew:=Grow.drew _ _;have HS:=zH (flip (eQ G 2 2 rfl hv.lo (by have:=hv.hi;omega) hv.u (by omega) w.drew));have HL:=zH (fT hR.drew (af G 2) head (dO hR hv.lo hv.hi (by omega)) hc);have aX:D.run s (.push G head)=(D.put (af G 2) head,some (.dL G head)):=rfl;rw[aX];clear aX ht hv;have HG:=zH G0;have HB:=zH ((zA B0 (zA B1 (zA B2 (zA B3 B4)))));clear hR hsl hc G0 B0 B1 B2 B3 B4;go_enter Tryz.func190,Tryz.ntmps190;go_wp2_with fail;refine wp_region_still_tail 7 (by kernel_rfl) (by kernel_rfl) ?_;simp only[jS,jT,jU,jV]
 repeat still_step
 still_call HS.out
 repeat still_step
 refine wpStill_nil ?_;change wpList _ _ _ _ _ w.drew;generalize w.drew=wd at*;go_wp2_with (go_at_call 47;refine HL.out.mono ?_;rintro e Y ⟨rfl,q1,q2⟩);go_ret;obtain⟨B0,B1,B2,B3,B4⟩:=HB.out;exact⟨A,_,rfl,q1,HG.out.trans q2,bT.refl _ _,_,_,_,_,_,rfl,B0.grow (HG.out.trans q2),B3.grow (HG.out.trans q2),B2.grow (HG.out.trans q2),B1.grow (HG.out.trans q2),B4.grow (HG.out.trans q2)⟩
theorem NU (hR:aC A D w) (s:Nat) (t:bL) (ht:D.aj.getD s none=some t) (b0 b1 b2 b3 b4 b5:Nat) (G head:Nat)
 (B0:aN A.L w b0 (R A.H 0)) (B1:aN A.L w b1 (zu G)) (B2:aN A.L w b2 (zu head)) (B3:aN A.L w b3 (R (A.bc s) 0)) (B4:aN A.L w b4 (R (A.bt s) 0)) (B5:aN A.L w b5 ((kp A D s).xo true))
 (hc:D.count<4000000000000000000) (hv:VL D G):
 zk 193 #[R b0 0,R b1 0,R b2 0,R b3 0,R b4 0,R b5 0] w (kY A w s (D.run s (.iq G head))):=by
 have c0:=B0.cell;have c1:=B1.cell;have c2:=B2.cell;have c3:=B3.cell;have c4:=B4.cell;have c5:=B5.cell;have e2:=hR.z2;have hsl:=hR.sl;have G0:Grow A.L w A.L w.drew:=Grow.drew _ _;have HS:=zH (flip (eQ G 2 2 rfl hv.lo (by have:=hv.hi;omega) hv.u (by omega) w.drew));have HL:=zH (fT hR.drew (af G 2) head (dO hR hv.lo hv.hi (by omega)) hc);have aX:D.run s (.iq G head)=(D.put (af G 2) head,some (.dQ G head)):=rfl;rw[aX];clear aX ht hv;have HG:=zH G0;have HB:=zH ((zA B0 (zA B1 (zA B2 (zA B3 (zA B4 B5))))));clear hR hsl hc G0 B0 B1 B2 B3 B4 B5;go_enter Tryz.func193,Tryz.ntmps193;go_wp2_with fail;refine wp_region_still_tail 7 (by kernel_rfl) (by kernel_rfl) ?_;simp only[jS,jT,jU,jV]
 repeat still_step
 still_call HS.out
 repeat still_step
 refine wpStill_nil ?_;change wpList _ _ _ _ _ w.drew;generalize w.drew=wd at*;go_wp2_with (go_at_call 47;refine HL.out.mono ?_;rintro e Y ⟨rfl,q1,q2⟩);go_ret;obtain⟨B0,B1,B2,B3,B4,B5⟩:=HB.out;exact⟨A,_,rfl,q1,HG.out.trans q2,bT.refl _ _,_,_,_,_,_,_,rfl,B0.grow (HG.out.trans q2),B3.grow (HG.out.trans q2),B2.grow (HG.out.trans q2),B1.grow (HG.out.trans q2),B4.grow (HG.out.trans q2),B5.grow (HG.out.trans q2)⟩
theorem Grow.ou {L L':dE} {w E:World} (g:Grow L w L' E) {a:Addr} (h:w.heap.size<=a.block) (v:Value):Grow L w L' (E.setCell a v):=
 ⟨g.os,g.tape,g.output,by simpa [World.setCell] using g.size,fun b hb hl=>(Below.heap_setCell _ _ _ _ (by omega)).trans (g.block b hb hl),g.lab,fun b hb hl=>(Below.heap_setCell _ _ _ _ (by omega)).trans (g.keep b hb hl)⟩
theorem aC.ou {A A1:au} {D aH:St} {w Y:World} (hR:aC A D w) (h1:aC A1 aH Y) (g:Grow A.L w A1.L Y) (ht:aH.aT=D.aT) (hcs:A1.gL=A.gL) {a:Addr} (hb:w.heap.size<=a.block) (hl:A1.L a.block=none) (v:Value):
 aC A1 aH (Y.setCell a v)∧Grow A.L w A1.L (Y.setCell a v):=
 ⟨⟨h1.mem.Nw hl v,by rw[ht,hcs];exact hR.ev.grow (g.ou hb v),h1.sl,h1.nw,h1.nt,h1.nv,h1.n8,h1.nc⟩,g.ou hb v⟩
theorem Fix.setOther {L:dE} {w:World} {b:Nat} {o:Obj} (h:Fix L w b o) {a:Addr} (hne:b≠a.block) (v:Value):Fix L (w.setCell a v) b o:=⟨h.1,(Below.heap_setCell _ _ _ _ hne).trans h.2⟩
theorem Fix.wF {L:dE} {w:World} {b:Nat} {u:Value} {T:TypeId} (h:Fix L w b (.cells #[u] T)) (v:Value):Fix L (w.setCell (J b 0) v) b (.cells #[v] T):=by
 refine⟨h.1,?_⟩;have:=h.2;simp only[World.setCell,Array.getElem?_modify,this];simp
theorem Fix.frozen {L:dE} {w:World} {b:Nat} {cs:Array Value} {T:TypeId} (h:Fix L w b (.cells cs T)) (i:Nat):w.frozen? (J b i)=false:=by
 unfold World.frozen?
 simp only[h.2];simp
theorem NV {D:St} {l:Nat} (hfree:∀ i∈D.list.free,i<D.aF) (hs:D.aF<=256) (htag:∀ i,i<D.aF->(D.tags.getD i (0,false)).1<=65535) (h:D.take.2=some l):VL D.take.1 l∧D.take.1.aF=D.aF:=by
 have hsl:D.list.aF=D.aF:=by unfold St.list;split<;>rfl
 have KR:D.list.tags=D.tags:=by unfold St.list;split<;>rfl
 cases hlast:D.list.free.getLast? with
 |none=>rw[zL hlast] at h;cases h
 |some i=>
  rw[zM hlast] at h ⊢;have hi:=hfree i (List.mem_of_getLast? hlast);have ht:=htag i hi;simp only[Option.some.injEq] at h;subst h;refine⟨⟨?_,?_,?_⟩,hsl⟩
  all_goals
   unfold St.jH rO;rw[KR]
   first|omega|(dsimp only;omega)
def _root_.Go.Proofs.YthicolbbmjfkfaaGreat.En.St.lay (D:St) (s l:Nat):St:={D with values:=D.values.set (ag l) ((D.c s).op.F,(D.c s).op.value)}
theorem wU {D:St} {s:Nat} {x:Bool} {head:Nat} (h:D.take.2=none):D.slot s x 0 head=(D.take.1,.abort 14 5):=by
 unfold St.slot;simp only[aV];generalize D.take=p at *;obtain⟨a,b⟩:=p;simp only at h;subst h;rfl
theorem wV {D:St} {s:Nat} {x:Bool} {head l:Nat} (h:D.take.2=some l):D.slot s x 0 head=(D.take.1.lay s l,.fB x l head):=by
 unfold St.slot;simp only[aV];generalize D.take=p at *;obtain⟨a,b⟩:=p;simp only at h;subst h;rfl
theorem Jb {D:St} {s:Nat} {x:Bool} {head l:Nat} (h:l≠0):D.slot s x l head=(D.lay s l,.fB x l head):=by
 unfold St.slot;rw[aR h];rfl
theorem Ie (hR:aC A D w) (s:Nat) (c:dN) (hc:D.calls.getD s none=some c) (l:Nat) (hv:VL D l):
 w.there A.bv (2*ag l) 2∧aC A (D.lay s l) (w.setCells A.bv (2*ag l) [I c.op.F,I c.op.value])∧Grow A.L w A.L (w.setCells A.bv (2*ag l) [I c.op.F,I c.op.value]):=by
 obtain⟨r1,g1⟩:=hR.QD (iY hv) c.op.F c.op.value;refine⟨fun j hj=>⟨?_,hR.Tm _⟩,by unfold St.lay;rw[bu hc];exact r1,g1⟩
 match j,hj with
 |0,_=>rw[Nat.add_zero,(hR.val (iY hv)).1];rfl
 |1,_=>rw[(hR.val (iY hv)).2];rfl
theorem rR (hR:aC A D w) (s:Nat) (c:dN) (hc:D.calls.getD s none=some c) (x:Bool) (G head:Nat) (hv:Value) (hh:dS A.L w 1 hv (if x then [] else [u64 head])) (hv0:G=0∨VL D G)
 (hm:A.mp=0) (hn:D.free.length<100000) (hfree:∀ i∈D.list.free,i<D.aF) (htag:∀ i,i<D.aF->(D.tags.getD i (0,false)).1<=65535):
 zk 151 #[R A.H 0,R (A.bt s) 0,R (A.bc s) 0,(kp A D s).xo x,zu G,hv] w (bE A w s (D.slot s x G head)):=by
 obtain⟨px,hx⟩:∃ px,(kp A D s).xo x=.pointer px:=by unfold KP.xo;split<;>exact⟨_,rfl⟩
 obtain⟨ha,hn1,hcap,VJ⟩:∃ a n cap,hv=.slice a n cap:=⟨_,_,_,hh.choose_spec.choose_spec.choose_spec.1⟩
 rw[hx];subst VJ;obtain⟨r6,g6,f0,f1,f2,f3,f4,f5⟩:=Hy hR #[R A.H 0] 32 #[R (A.bt s) 0] 100 #[R (A.bc s) 0] 105 #[.pointer px] 223 #[zu G] 25 #[.slice ha hn1 hcap] 260;have SI:=hh.grow g6;have k0:=f0.cell 0 rfl;have k1:=f1.cell 0 rfl;have k2:=f2.cell 0 rfl;have k4:=f4.cell 0 rfl
 by_cases h0:G=0
 . have qC:D.take.1.aF=D.aF:=by unfold St.take;simp only;split<;>(unfold St.list;split<;>rfl)
   have CY:D.take.1.aT=D.aT:=by unfold St.take;simp only;split<;>(unfold St.list;split<;>rfl)
   have pE:D.take.1.calls=D.calls:=by unfold St.take;simp only;split<;>(unfold St.list;split<;>rfl)
   have e3:=r6.df 3 (v:=R A.bp 0) rfl;have hz:((G:Int)==0)=true:=by simpa using h0
   have hz2:((G:Int)=0)=True:=by simpa using h0
   have HT:=zH (KQ r6 hm hn hfree htag);have FACT:∀ L1 v1 m1 Y,aC {A with L:=L1,eZ:=v1,mp:=m1} D.take.1 Y->Grow A.L ((((((w.alloc (.cells #[R A.H 0] 32)).alloc (.cells #[R (A.bt s) 0] 100)).alloc (.cells #[R (A.bc s) 0] 105)).alloc (.cells #[.pointer px] 223)).alloc (.cells #[zu G] 25)).alloc (.cells #[.slice ha hn1 hcap] 260)) L1 Y->∀ l:Nat,zS Y w.heap.size 0 A.H 0∧Y.cell? ⟨w.heap.size+4,0,none⟩=zv G∧Y.frozen? ⟨w.heap.size+4,0,none⟩=false∧
    (Y.setCell ⟨w.heap.size+4,0,none⟩ (zu l)).cell? (J w.heap.size 0)=zs A.H 0∧(Y.setCell ⟨w.heap.size+4,0,none⟩ (zu l)).cell? ⟨w.heap.size+1,0,none⟩=zs (A.bt s) 0∧(Y.setCell ⟨w.heap.size+4,0,none⟩ (zu l)).cell? ⟨w.heap.size+2,0,none⟩=zs (A.bc s) 0∧(Y.setCell ⟨w.heap.size+4,0,none⟩ (zu l)).cell? ⟨w.heap.size+4,0,none⟩=zv l∧
    (Y.setCell ⟨w.heap.size+4,0,none⟩ (zu l)).cell? (J (A.bc s) 1)=zt c.op.F∧(Y.setCell ⟨w.heap.size+4,0,none⟩ (zu l)).cell? (J (A.bc s) 3)=zt c.op.value∧
    aC {A with L:=L1,eZ:=v1,mp:=m1} D.take.1 (Y.setCell ⟨w.heap.size+4,0,none⟩ (zu l))∧Grow A.L w L1 (Y.setCell ⟨w.heap.size+4,0,none⟩ (zu l))∧
    aN L1 (Y.setCell ⟨w.heap.size+4,0,none⟩ (zu l)) w.heap.size (R A.H 0)∧aN L1 (Y.setCell ⟨w.heap.size+4,0,none⟩ (zu l)) (w.heap.size+4) (zu l)∧aN L1 (Y.setCell ⟨w.heap.size+4,0,none⟩ (zu l)) (w.heap.size+1) (R (A.bt s) 0)∧aN L1 (Y.setCell ⟨w.heap.size+4,0,none⟩ (zu l)) (w.heap.size+3) (.pointer px)∧aN L1 (Y.setCell ⟨w.heap.size+4,0,none⟩ (zu l)) (w.heap.size+2) (R (A.bc s) 0)∧aN L1 (Y.setCell ⟨w.heap.size+4,0,none⟩ (zu l)) (w.heap.size+5) (.slice ha hn1 hcap)∧dS L1 (Y.setCell ⟨w.heap.size+4,0,none⟩ (zu l)) 1 (.slice ha hn1 hcap) (if x then [] else [u64 head]):=by
    intro L1 v1 m1 Y q1 q2 l;have j0:=f0.grow q2;have j1:=f1.grow q2;have j2:=f2.grow q2;have j3:=f3.grow q2;have j4:=f4.grow q2;have j5:=f5.grow q2;obtain⟨r7,g7⟩:=hR.ou q1 (g6.trans q2) CY rfl (a:=⟨w.heap.size+4,0,none⟩) (by show w.heap.size<=w.heap.size+4;omega) j4.1 (zu l);have i0:=j0.setOther (a:=⟨w.heap.size+4,0,none⟩) (by show w.heap.size≠w.heap.size+4;omega) (zu l);have i1:=j1.setOther (a:=⟨w.heap.size+4,0,none⟩) (by show w.heap.size+1≠w.heap.size+4;omega) (zu l);have i2:=j2.setOther (a:=⟨w.heap.size+4,0,none⟩) (by show w.heap.size+2≠w.heap.size+4;omega) (zu l);have i3:=j3.setOther (a:=⟨w.heap.size+4,0,none⟩) (by show w.heap.size+3≠w.heap.size+4;omega) (zu l);have i4:=j4.wF (zu l);have i5:=j5.setOther (a:=⟨w.heap.size+4,0,none⟩) (by show w.heap.size+5≠w.heap.size+4;omega) (zu l);have hc1:D.take.1.calls.getD s none=some c:=by rw[pE];exact hc
    exact⟨j0.cell 0 rfl,j4.cell 0 rfl,j4.frozen 0,i0.cell 0 rfl,i1.cell 0 rfl,i2.cell 0 rfl,i4.cell 0 rfl,r7.call hc1 1 rfl,r7.call hc1 3 rfl,r7,g7,i0.box,i4.box,i1.box,i3.box,i2.box,i5.box,hh.grow g7⟩
   have hc1:D.take.1.calls.getD s none=some c:=by rw[pE];exact hc
   cases ht:D.take.2 with
   |none=>
    have e:D.slot s x G head=(D.take.1,.abort 14 5):=by rw[h0];exact wU ht
    rw[e];rw[ht,show Be none=.tuple #[zu 0,I 15] from rfl] at HT;have HF:=zH FACT;clear hR hh hv0 hm hn hfree htag r6 g6 f0 f1 f2 f3 f4 f5 SI h0 e ht FACT qC CY pE hc1 hc;generalize D.take.1=aH at*;go_enter Tryz.func151,Tryz.ntmps151;go_wp2_with (first|(go_at_call 167;refine HT.out.mono ?_;rintro e Y ⟨rfl,A1,⟨⟨L1,v1,m1,rfl⟩,hm1⟩,q1,q2⟩;obtain⟨c0,c4,z4,n0,n1,n2,n4,n5,n6,r7,g7,hb⟩:=HF.out L1 v1 m1 Y q1 q2 0;rw[show ((0:Nat):Int)=0 from rfl] at n0 n1 n2 n4 n5 n6 r7 g7;have HA:=zH (jC r7 s 14 5);have HG:=zH (zA g7 hm1);clear q1 q2 r7 g7 hb hm1)|(go_at_call 97;refine HA.out.mono ?_;rintro e w2 ⟨A2,v,rfl,p1,p2,p3,p4⟩));go_ret;have hst:bT A {A with L:=L1,eZ:=v1,mp:=m1} s:=⟨rfl,rfl,rfl,rfl,rfl,rfl,rfl,rfl,rfl,HG.out.2,rfl,fun _ _=>rfl,fun _ _=>rfl⟩
    exact⟨A2,v,rfl,p1,HG.out.1.trans p2,hst.trans p3,p4⟩
   |some l=>
    have e:D.slot s x G head=(D.take.1.lay s l,.fB x l head):=by rw[h0];exact wV ht
    rw[e];rw[ht,show Be (some l)=.tuple #[zu l,I 0] from rfl] at HT;have hvl:VL D.take.1 l:=(NV hfree (by have:=hR.sl;omega) htag ht).1;have FIN:∀ L1 v1 m1 ws,aC {A with L:=L1,eZ:=v1,mp:=m1} D.take.1 ws->Grow A.L w L1 ws->zk 87 #[R A.H 0,zu l] ws.drew (fun e E=>e=.returned (.pointer (some ⟨A.bv,2*ag l,none⟩))∧E=ws.drew)∧ws.drew.there A.bv (2*ag l) 2∧(∀ E,World.setCells ws.drew A.bv (2*ag l) [I c.op.F,I c.op.value]=E->aC {A with L:=L1,eZ:=v1,mp:=m1} (D.take.1.lay s l) E∧Grow A.L w L1 E∧Grow L1 ws L1 E):=by
     intro L1 v1 m1 ws r7 g7;obtain⟨t1,t2,t3⟩:=Ie r7.drew s c hc1 l hvl;refine⟨flip (nA r7.drew l hvl.lo hvl.hi hvl.u),t1,?_⟩;rintro E rfl;have gd:Grow L1 ws L1 ws.drew:=Grow.drew _ _;exact⟨t2,(g7.trans gd).trans t3,gd.trans t3⟩
    have HF:=zH FACT;have HN:=zH FIN;have hx':(kp A D.take.1 s).xo x=.pointer px:=by
     rw[show kp A D.take.1 s=kp A D s by unfold kp St.c;rw[pE]];exact hx
    have HX:=zH hx';clear hR hh hv0 hm hn hfree htag r6 g6 f0 f1 f2 f3 f4 f5 SI h0 e ht FACT qC CY pE hc1 hc hvl FIN hx hx';generalize D.take.1=aH at*;go_enter Tryz.func151,Tryz.ntmps151;go_wp2_with (go_at_call 167;refine HT.out.mono ?_;rintro e Y ⟨rfl,A1,⟨⟨L1,v1,m1,rfl⟩,hm1⟩,q1,q2⟩;obtain⟨c0,c4,z4,n0,n1,n2,n4,n5,n6,r7,g7,hb⟩:=HF.out L1 v1 m1 Y q1 q2 l;have HG:=zH (zA r7 (zA g7 (zA hm1 hb)));clear q1 q2 r7 g7 hb hm1);generalize hws:World.setCell _ _ _=ws at*;obtain⟨d0,d1,d2⟩:=HN.out L1 v1 m1 ws HG.out.1 HG.out.2.1;have HD:=zH d0;clear HT;have HT:=zH d1;have VK:=zH d2;clear d0 d1 d2 HF HN hws;refine wp_region_still_tail 15 (by kernel_rfl) (by kernel_rfl) ?_;simp only[jS,jT,jU,jV]
    repeat still_step
    still_call HD.out
    repeat still_step
    refine wpStill_nil ?_;change wpList _ _ _ _ _ ws.drew;generalize ws.drew=wd at*;go_wp2_with (refine wpList_store_mid rfl 190 (.tmp 44) (.tmp 43) rfl A.bv (2*ag l) #[I c.op.F,I c.op.value] rfl rfl HT.out (by kernel_rfl) (by simp[Value.oneCell']) ?_;generalize hws:World.setCells _ _ _ _=ws;obtain⟨k1,k2⟩:=VK.out ws hws;have HK:=zH (zA k1 k2);clear k1 k2 hws);go_ret;obtain⟨b0,b4,b1,b3,b2,b5,hrow⟩:=HG.out.2.2.2;obtain⟨r8,g8,g9⟩:=HK.out;exact⟨_,_,rfl,r8,g8,⟨rfl,rfl,rfl,rfl,rfl,rfl,rfl,rfl,rfl,HG.out.2.2.1,rfl,fun _ _=>rfl,fun _ _=>rfl⟩,_,_,_,_,_,_,rfl,b0.grow g9,b4.grow g9,b1.grow g9,by have:=b3.grow g9;rw[<-HX.out] at this;exact this,b2.grow g9,_,b5.grow g9,hrow.grow g9⟩
 . have hvl:=hv0.resolve_left h0
   rw[Jb h0];have d1:((G:Int)==0)=false:=by simpa using h0
   have d2:((G:Int)=0)=False:=by simpa using h0
   have q1:=r6.call hc 1 (v:=I c.op.F) rfl;have q3:=r6.call hc 3 (v:=I c.op.value) rfl;have HD:=zH (flip (nA r6.drew G hvl.lo hvl.hi hvl.u));obtain⟨t1,t2,t3⟩:=Ie r6.drew s c hc G hvl;have HT:=zH t1;have VK:Hid (∀ ws,World.setCells ((((((w.alloc (.cells #[R A.H 0] 32)).alloc (.cells #[R (A.bt s) 0] 100)).alloc (.cells #[R (A.bc s) 0] 105)).alloc (.cells #[.pointer px] 223)).alloc (.cells #[zu G] 25)).alloc (.cells #[.slice ha hn1 hcap] 260)).drew A.bv (2*ag G) [I c.op.F,I c.op.value]=ws->aC A (D.lay s G) ws∧Grow A.L ((((((w.alloc (.cells #[R A.H 0] 32)).alloc (.cells #[R (A.bt s) 0] 100)).alloc (.cells #[R (A.bc s) 0] 105)).alloc (.cells #[.pointer px] 223)).alloc (.cells #[zu G] 25)).alloc (.cells #[.slice ha hn1 hcap] 260)).drew A.L ws):=zH (by rintro ws rfl;exact⟨t2,t3⟩);have HB:=zH (zA (g6.trans (Grow.drew _ _)) (zA (zA f0 (zA f4 (zA f1 (zA f3 (zA f2 f5))))) (zA SI (Grow.drew A.L ((((((w.alloc (.cells #[R A.H 0] 32)).alloc (.cells #[R (A.bt s) 0] 100)).alloc (.cells #[R (A.bc s) 0] 105)).alloc (.cells #[.pointer px] 223)).alloc (.cells #[zu G] 25)).alloc (.cells #[.slice ha hn1 hcap] 260))))));clear hR hh hv0 hm hn hfree htag r6 g6 f0 f1 f2 f3 f4 f5 SI hvl h0 t1 t2 t3;go_enter Tryz.func151,Tryz.ntmps151;go_wp2_with fail;generalize ((((((w.alloc (.cells #[R A.H 0] 32)).alloc (.cells #[R (A.bt s) 0] 100)).alloc (.cells #[R (A.bc s) 0] 105)).alloc (.cells #[.pointer px] 223)).alloc (.cells #[zu G] 25)).alloc (.cells #[.slice ha hn1 hcap] 260))=w6 at*;refine wp_region_still_tail 15 (by kernel_rfl) (by kernel_rfl) ?_;simp only[jS,jT,jU,jV]
   repeat still_step
   still_call HD.out
   repeat still_step
   refine wpStill_nil ?_;change wpList _ _ _ _ _ w6.drew;generalize w6.drew=wd at*;go_wp2_with (refine wpList_store_mid rfl 190 (.tmp 44) (.tmp 43) rfl A.bv (2*ag G) #[I c.op.F,I c.op.value] rfl rfl HT.out (by kernel_rfl) (by simp[Value.oneCell']) ?_;generalize hws:World.setCells _ _ _ _=ws;obtain⟨k1,k2⟩:=VK.out ws hws;have HK:=zH (zA k1 k2);clear k1 k2 hws);go_ret;obtain⟨g7,⟨f0,f4,f1,f3,f2,f5⟩,SI,gd⟩:=HB.out;obtain⟨r8,g8⟩:=HK.out;have g9:=gd.trans g8;exact⟨A,_,rfl,r8,g7.trans g8,bT.refl _ _,_,_,_,_,_,_,rfl,(f0.grow g9).box,(f4.grow g9).box,(f1.grow g9).box,hx ▸ (f3.grow g9).box,(f2.grow g9).box,_,(f5.grow g9).box,SI.grow g9⟩
theorem CZ (hR:aC A D w) (s:Nat) (c:dN) (hc:D.calls.getD s none=some c) (G head at_:Nat) (hv0:G=0∨VL D G)
 (hm:A.mp=0) (hn:D.free.length<100000) (hfree:∀ i∈D.list.free,i<D.aF) (htag:∀ i,i<D.aF->(D.tags.getD i (0,false)).1<=65535):
 zk 154 #[R A.H 0,R (A.bt s) 0,R (A.bc s) 0,zu G,zu head,zu at_] w (bE A w s (D.jd s G head at_)):=by
 obtain⟨r6,g6,f0,f1,f2,f3,f4,f5⟩:=Hy hR #[R A.H 0] 32 #[R (A.bt s) 0] 100 #[R (A.bc s) 0] 105 #[zu G] 25 #[zu head] 25 #[zu at_] 25;have k0:=f0.cell 0 rfl;have k1:=f1.cell 0 rfl;have k2:=f2.cell 0 rfl;have k3:=f3.cell 0 rfl;have k4:=f4.cell 0 rfl;have k5:=f5.cell 0 rfl;unfold St.jd
 by_cases h0:at_=0
 . rw[aV h0]
   have d1:((at_:Int)==0)=true:=by simpa using h0
   have d2:((at_:Int)=0)=True:=by simpa using h0
   obtain⟨r7,g7,f6⟩:=dA r6 #[zu head] 25;have hrow:dS A.L (((((((w.alloc (.cells #[R A.H 0] 32)).alloc (.cells #[R (A.bt s) 0] 100)).alloc (.cells #[R (A.bc s) 0] 105)).alloc (.cells #[zu G] 25)).alloc (.cells #[zu head] 25)).alloc (.cells #[zu at_] 25)).alloc (.cells #[zu head] 25)) 1 (.slice (some ⟨w.heap.size+6,0,none⟩) 1 1) (if false then [] else [u64 head]):=by
    rw[show ((((((w.alloc (.cells #[R A.H 0] 32)).alloc (.cells #[R (A.bt s) 0] 100)).alloc (.cells #[R (A.bc s) 0] 105)).alloc (.cells #[zu G] 25)).alloc (.cells #[zu head] 25)).alloc (.cells #[zu at_] 25)).heap.size=w.heap.size+6 by simp] at f6;refine⟨_,_,_,rfl,rfl,by omega,by unfold maxLen;omega,.inr ⟨_,0,rfl,f6.1,?_,?_⟩⟩
    . simp
    . intro j hj
      have hj0:j=0:=by omega
      subst hj0;exact f6.cell 0 rfl
   have HS:=zH (rR r7 s c hc false G head _ hrow hv0 hm hn hfree htag);have HG:=zH (g6.trans g7);clear hR hc hv0 hm hn hfree htag h0 hrow r6 g6 r7 g7 f0 f1 f2 f3 f4 f5 f6;go_enter Tryz.func154,Tryz.ntmps154;go_wp2_with (go_at_call 151;refine HS.out.mono ?_;rintro e w2 ⟨A2,v,rfl,p1,p2,p3,p4⟩);go_ret;exact⟨A2,v,rfl,p1,HG.out.trans p2,p3,p4⟩
 . rw[aR h0]
   have d1:((at_:Int)==0)=false:=by simpa using h0
   have d2:((at_:Int)=0)=False:=by simpa using h0
   obtain⟨r7,g7,f6⟩:=dA r6 #[.func (.func 172) #[] #[R w.heap.size 0,.pointer (some ⟨w.heap.size+1,0,none⟩),.pointer (some ⟨w.heap.size+2,0,none⟩),.pointer (some ⟨w.heap.size+3,0,none⟩),.pointer (some ⟨w.heap.size+4,0,none⟩),.pointer (some ⟨w.heap.size+5,0,none⟩)]] 138;have HG:=zH (zA r7 (zA (g6.trans g7) (zA (f0.grow g7).box (zA (f1.grow g7).box (zA (f2.grow g7).box (zA (f3.grow g7).box (zA (f4.grow g7).box (zA (f5.grow g7).box f6.box))))))));clear hR hc hv0 hm hn hfree htag h0 r6 g6 r7 g7 f0 f1 f2 f3 f4 f5 f6;go_enter Tryz.func154,Tryz.ntmps154;go_wp2;go_ret;obtain⟨r7,g7,f0,f1,f2,f3,f4,f5,f6⟩:=HG.out;have hsz:((((((w.alloc (.cells #[R A.H 0] 32)).alloc (.cells #[R (A.bt s) 0] 100)).alloc (.cells #[R (A.bc s) 0] 105)).alloc (.cells #[zu G] 25)).alloc (.cells #[zu head] 25)).alloc (.cells #[zu at_] 25)).heap.size=w.heap.size+6:=by simp
   rw[hsz] at f6;exact⟨A,_,rfl,r7,g7,bT.refl _ _,_,_,_,_,_,_,rfl,f0,f5,f1,⟨_,f6,_,_,_,_,_,_,rfl,f0,f1,f2,f3,f4,f5⟩,f2,f3⟩
structure iR (D:St):Prop where
 n:D.free.length<100000
 free:∀ i∈D.free,i<D.aF
 tag:∀ i,i<D.aF->(D.tags.getD i (0,false)).1<=65535
 ja:D.ja<1000000
theorem iR.list {D:St} (h:iR D):∀ i∈D.list.free,i<D.aF:=by
 unfold St.list
 split
 . exact h.free
 . intro i hi
   rcases List.mem_append.1 hi with h1|h1
   . exact h.free i h1
   . simpa using h1
theorem iK (h:aC A D w) (i:Nat) (z:Int) (hz:z=(i:Int)) (hi:i<D.words.length) (hc:D.count<4000000000000000000):
 zk 42 #[R A.ba 0,I z] w (vC A w D.tick (zu (D.word i:Int))):=by subst hz;exact iJ h i hi hc
theorem NW (hR:aC A D w) (s:Nat) (c:dN) (hc:D.calls.getD s none=some c) (G:Nat) (hv0:G=0∨VL D G) (Z:c.op.F<64) (hm:A.mp=0) (hp:iR D) (aL:D.count<4000000000000000000)
 (b0 b1 b2 b3:Nat) (B0:aN A.L w b0 (R A.H 0)) (B1:aN A.L w b1 (R (A.bc s) 0)) (B2:aN A.L w b2 (R (A.bt s) 0)) (B3:aN A.L w b3 (zu G)):
 zk 153 #[R b0 0,R b1 0,R b2 0,R b3 0] w (kY A w s (D.run s (.fresh G))):=by
 have c0:=B0.cell;have c1:=B1.cell;have e2:=hR.z2;have k1:w.cell? (J (A.bc s) 1)=zt c.op.F:=hR.call hc 1 rfl;have n1:IntKind.i64.wrap (9+(c.op.F:Int))=9+(c.op.F:Int):=by rw[jG];omega
 have HL:=zH (iK hR.drew (9+c.op.F) (9+(c.op.F:Int)) (by omega) (by rw[hR.nw];omega) aL);have aX:D.run s (.fresh G)=(((D.tick.jd s G (D.word (9+c.op.F)) (D.word (9+c.op.F)))).1,some ((D.tick.jd s G (D.word (9+c.op.F)) (D.word (9+c.op.F)))).2):=by
  simp only[St.run,bu hc]
 rw[aX];have HB:Hid (∀ Y,aC A D.tick Y->Grow A.L w.drew A.L Y->zk 154 #[R A.H 0,R (A.bt s) 0,R (A.bc s) 0,zu G,zu (D.word (9+c.op.F):Int),zu (D.word (9+c.op.F):Int)] Y (bE A Y s (D.tick.jd s G (D.word (9+c.op.F)) (D.word (9+c.op.F))))∧zS Y b0 0 A.H 0∧zS Y b1 0 (A.bc s) 0∧zS Y b2 0 (A.bt s) 0∧zV Y b3 0 G∧Grow A.L w A.L Y):=by
  intro Y q1 q2;have g:Grow A.L w A.L Y:=(Grow.drew _ _).trans q2;exact⟨CZ q1 s c hc G _ _ (hv0.imp id fun h=>⟨h.lo,h.hi,h.u⟩) hm hp.n (iR.list (D:=D.tick) ⟨hp.n,hp.free,hp.tag,hp.ja⟩) hp.tag,(B0.grow g).cell,(B1.grow g).cell,(B2.grow g).cell,(B3.grow g).cell,g⟩
 clear hR hc hv0 hm hp aL B0 B1 B2 B3 aX Z;generalize D.tick.jd s G (D.word (9+c.op.F)) (D.word (9+c.op.F))=res at*;generalize D.word (9+c.op.F)=hd at*;generalize c.op.F=F at*;go_enter Tryz.func153,Tryz.ntmps153;go_wp2_with fail;refine wp_region_still_tail 10 (by kernel_rfl) (by kernel_rfl) ?_;simp only[jS,jT,jU,jV]
 repeat still_step
 refine wpStill_nil ?_;change wpList _ _ _ _ _ w.drew;generalize w.drew=wd at*;go_wp2_with (first|(go_at_call 42;refine HL.out.mono ?_;rintro e Y ⟨rfl,q1,q2⟩;obtain⟨hf,d0,d1,d2,d3,g1⟩:=HB.out Y q1 q2;have HF:=zH (zA hf g1);clear q1 q2 hf g1)|(go_at_call 154;refine HF.out.1.mono ?_;rintro e w2 ⟨A2,v,rfl,p1,p2,p3,p4⟩));go_ret;exact⟨A2,v,rfl,p1,HF.out.2.trans p2,p3,p4⟩
theorem QL (hR:aC A D w) (s:Nat) (c:dN) (hc:D.calls.getD s none=some c) (G head at_:Nat) (hv0:G=0∨VL D G) (hv:VL D at_) (hm:A.mp=0) (hp:iR D) (aL:D.count<4000000000000000000)
 (b0 b1 b2 b3 b4 b5:Nat) (B0:aN A.L w b0 (R A.H 0)) (B1:aN A.L w b1 (R (A.bt s) 0)) (B2:aN A.L w b2 (R (A.bc s) 0)) (B3:aN A.L w b3 (zu G)) (B4:aN A.L w b4 (zu head)) (B5:aN A.L w b5 (zu at_)):
 zk 172 #[R b0 0,R b1 0,R b2 0,R b3 0,R b4 0,R b5 0] w (kY A w s (D.run s (.next G head at_))):=by
 have c0:=B0.cell;have c1:=B1.cell;have c2:=B2.cell;have c3:=B3.cell;have c4:=B4.cell;have c5:=B5.cell;have hsl:=hR.sl;have e2:=hR.z2;have HS:=zH (eQ at_ 2 2 rfl hv.lo (by have:=hv.hi;omega) hv.u (by omega));have HL:=zH (iJ hR.drew (af at_ 2) (dO hR hv.lo hv.hi (by omega)) aL);have HG:=zG A.L w;have HK:Hid (∀ E,Kp A w E->zS E b0 0 A.H 0∧zS E b1 0 (A.bt s) 0∧zS E b2 0 (A.bc s) 0∧zV E b3 0 G∧zV E b4 0 head∧zV E b5 0 at_∧zS E A.H 2 A.ba 0):=by
  obtain⟨_,x0⟩:=B0;obtain⟨_,x1⟩:=B1;obtain⟨_,x2⟩:=B2;obtain⟨_,x3⟩:=B3;obtain⟨_,x4⟩:=B4;obtain⟨_,x5⟩:=B5;exact fun E k=>⟨k.fix _ _ _ x0.1 c0,k.fix _ _ _ x1.1 c1,k.fix _ _ _ x2.1 c2,k.fix _ _ _ x3.1 c3,k.fix _ _ _ x4.1 c4,k.fix _ _ _ x5.1 c5,k.ea⟩
 have aX:D.run s (.next G head at_)=((D.tick.jd s G head (D.word (af at_ 2))).1,some (D.tick.jd s G head (D.word (af at_ 2))).2):=rfl;rw[aX];have HB:Hid (∀ Y,aC A D.tick Y->zk 154 #[R A.H 0,R (A.bt s) 0,R (A.bc s) 0,zu G,zu head,zu (D.word (af at_ 2):Int)] Y (bE A Y s (D.tick.jd s G head (D.word (af at_ 2))))):=
  fun Y q1=>CZ q1 s c hc G _ _ (hv0.imp id fun h=>⟨h.lo,h.hi,h.u⟩) hm hp.n (iR.list (D:=D.tick) ⟨hp.n,hp.free,hp.tag,hp.ja⟩) hp.tag
 clear hR hc hv0 hv hm hp aL B0 B1 B2 B3 B4 B5 aX hsl;go_enter Tryz.func172,Tryz.ntmps172;go_wp2_with fail
 go_region_held3 (fun E=>zS E b0 0 A.H 0∧zS E b1 0 (A.bt s) 0∧zS E b2 0 (A.bc s) 0∧zV E b3 0 G∧zV E b4 0 head∧zV E b5 0 at_∧zS E A.H 2 A.ba 0)
  (first|exact⟨c0,c1,c2,c3,c4,c5,e2⟩|assumption|exact HK.out _ (Kp.of (by assumption) (by assumption) (by assumption)))
  (first|(go_at_call 85;refine (HS.out _).mono ?_;rintro e E ⟨rfl,rfl⟩)|(go_at_call 42;refine HL.out.mono ?_;rintro e Y ⟨rfl,q1,q2⟩;have q4:=HG.out.trans q2;have q3:=bT.refl A s;clear q2)|(go_at_call 154;refine (HB.out _ (by assumption)).mono ?_;rintro e w2 ⟨A',v,rfl,p1,p2,p3,p4⟩;have p5:=(‹Grow A.L w A.L _›).trans p2))
 go_wp2_with fail;go_ret;exact⟨A',_,rfl,p1,p5,p3,p4⟩
theorem C8 {D:St} {G:Nat} (hv:VL D G):D.kF G=((D.tags.getD (ag G) (0,false)).2&&D.jH (ag G)==G):=by
 unfold St.kF;have h1:decide (1<=G % 131072)=true:=by simpa using hv.lo
 have h2:decide (G % 131072<=D.aF)=true:=by simpa using hv.hi
 rw[h1,h2,Bool.true_and,Bool.true_and]
theorem KV (hR:aC A D w) (G:Nat) (hv:VL D G) (htag:∀ i,i<D.aF->(D.tags.getD i (0,false)).1<=65535):
 zk 134 #[R A.bp 0,zu G] w fun e E=>e=.returned (.bool (D.kF G))∧w=E:=by
 have hi:=iY hv;have hu:=Word.pz (G:Int) (by omega) (by have:=hv.u;omega) w;rw[<-qw hv.lo] at hu;have p0:w.cell? (J A.bp 0)=some (.slice (some (J A.bs 0)) D.aF D.aF):=hR.bO 0 rfl;have t1:=(hR.tag hi).2;rw[Nat.mul_comm] at t1;have hl:=CU hR (ag G) hi (htag _ hi);have b0:(0:Int)<=(ag G:Int):=by omega
 have b1:(ag G:Int)<(D.aF:Int):=by omega
 rw[C8 hv];have HU:=zH hu;have HL:=zH hl;clear hu hl hv htag hR hi;generalize ag G=i at*
 cases htk:(D.tags.getD i (0,false)).2 with
 |false=>
  rw[htk] at t1;clear htk;go_enter Tryz.func134,Tryz.ntmps134;go_wp2_with (go_at_call 107;refine HU.out.mono ?_;rintro e E ⟨rfl,rfl⟩);go_ret;exact⟨rfl,rfl⟩
 |true=>
  rw[htk] at t1;clear htk;rw[Bool.true_and];generalize D.jH i=la at*
  by_cases he:la=G
  . have d1:((la:Int)==(G:Int))=true:=by simp;omega
    have d2:(la==G)=true:=by simp;omega
    rw[d2];have d3:((la:Int)=(G:Int))=True:=by simp;omega
    clear d2 he;go_enter Tryz.func134,Tryz.ntmps134;go_wp2_with (first|(go_at_call 107;refine HU.out.mono ?_;rintro e E ⟨rfl,rfl⟩)|(go_at_call 158;refine HL.out.mono ?_;rintro e E ⟨rfl,rfl⟩));go_ret;exact⟨rfl,rfl⟩
  . have d1:((la:Int)==(G:Int))=false:=by simp;omega
    have d2:(la==G)=false:=by simp;omega
    rw[d2];have d3:((la:Int)=(G:Int))=False:=by simp;omega
    clear d2 he;go_enter Tryz.func134,Tryz.ntmps134;go_wp2_with (first|(go_at_call 107;refine HU.out.mono ?_;rintro e E ⟨rfl,rfl⟩)|(go_at_call 158;refine HL.out.mono ?_;rintro e E ⟨rfl,rfl⟩));go_ret;exact⟨rfl,rfl⟩
end Go.Proofs.YthicolbbmjfkfaaGreat.Em
