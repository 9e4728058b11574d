import Derived.Test.YthicolbbmjfkfaaGreatQh3
set_option linter.unusedVariables false
set_option linter.unusedSimpArgs false
set_option maxRecDepth 100000
set_option maxHeartbeats 1600000
namespace Go.Proofs.YthicolbbmjfkfaaGreat.Em
open Go.ChangeShapes Go.WideShapes Go.ChangeAt Go.RowKit En
variable {A:au} {D:St} {w:World}
theorem zP:(Tryz.prog.info? 3).map (fun i=>(i.zero,i.size,i.bytes))=some (some (I 0),1,8):=by kernel_rfl
def om (A A':au):Prop:=∃ L v,A'={A with L:=L,eO:=v}
def fZ (D:St) (k:Nat):St:={D with free:=D.free++(List.range D.aC).reverse.take k}
theorem zQ (D:St) (k:Nat) (V:k<D.aC):(fZ D (k+1)).free=(fZ D k).free++[D.aC - 1 - k]:=by
 unfold fZ;simp only;rw[List.take_succ_eq_append_getElem (by simpa using V),List.append_assoc];simp
theorem mF (h:aD A D w):w.ownsRow 0 3 1 A.eO D.free.length (D.free.map i64):=(h.mem.all .free).1
theorem wM (hR:aD A D w) (i:Nat):
 ∃ av iJ,A.eO=.slice av D.free.length iJ∧∀ v' w2,w2.ownsRow 0 3 1 v' (D.free.length+1) (D.free.map i64++[I i])->(w.alloc (.cells #[I i] 3)).grownBy w2 A.eO.ownBlock->(v'.ownBlock=A.eO.ownBlock∨∀ g,v'.ownBlock=some g->(w.alloc (.cells #[I i] 3)).heap.size<=g)->
  (∃ A',om A A'∧aD A' {D with free:=D.free++[i]} (w2.setCell (J A.bp 2) v')∧Grow A.L w A'.L (w2.setCell (J A.bp 2) v'))∧w2.cell? (J A.bp 2)=some A.eO∧w2.frozen? (J A.bp 2)=false∧(∀ b u,A.L b=none->w.cell? (J b 0)=some u->w2.cell? (J b 0)=some u):=by
 obtain⟨av,iJ,hv,_⟩:=Ow.bD (mF hR);refine⟨av,iJ,hv,fun v' w2 q1 q2 q3=>?_⟩;obtain⟨r1,g1,_⟩:=cB hR #[I i] 3;obtain⟨p1,p2,p3,p4⟩:=r1.LD (D.free++[i]) v' q2 (by simpa using q1) q3;refine⟨⟨_,⟨_,_,rfl⟩,p1,g1.trans p2⟩,p3,p4,fun b u hl hc=>?_⟩;have hc1:(w.alloc (.cells #[I i] 3)).cell? (J b 0)=some u:=by
  rw[World.cell?_alloc_past _ _ _ (World.block_lt_of_cell? w _ hc)];exact hc
 refine q2.cell hc1 fun e=>?_
 have:=(hR.mem.all .free).2 b e.symm;rw[hl] at this
 cases this
theorem Ey (hR:aD A D w) (b0:Nat) (B0:aK A.L w b0 (R A.bp 0)) (hn:D.free.length<100000):
 zk 161 #[R b0 0] w fun e G=>e=.returned (.tuple #[])∧∃ A',om A A'∧aD A' (fZ D D.aC) G∧Grow A.L w A'.L G:=by
 have c0:=B0.cell;have p0:w.cell? (J A.bp 0)=some (.slice (some (J A.bs 0)) D.aC D.aC):=hR.bK 0 rfl;have hsl:=hR.sl;have HR:=U hR;have HB:=U B0;have HN:=U (zA hn hsl);have hw1:IntKind.i64.wrap ((D.aC:Int) - 1)=(D.aC:Int) - 1:=by rw[jH];omega
 clear hR B0 hn hsl;go_enter Tryz.func161,Tryz.ntmps161;go_wp2_with fail
 go_loopw [1] (fun i wr=>∃ k:Nat,k<=D.aC∧i=I ((D.aC:Int) - 1 - (k:Int))∧∃ A',om A A'∧aD A' (fZ D k) wr∧Grow A.L w A'.L wr) (fun i _=>(intOf i+1).toNat)
 case atStart=>exact⟨0,zz _,by simp,A,⟨_,_,rfl⟩,by simpa [fZ] using HR.out,Grow.refl _ _⟩
 case round=>
  obtain⟨k,V,rfl,A',⟨L',v1,rfl⟩,hr,hg⟩:=hrel
  by_cases hlt:k<D.aC
  . obtain⟨j,hj⟩:∃ j:Nat,j=D.aC - 1 - k:=⟨_,rfl⟩
    have ej:(D.aC:Int) - 1 - (k:Int)=(j:Int):=by omega
    rw[ej];have d1:(0:Int)<=(j:Int):=by omega
    have d2:IntKind.i64.wrap ((j:Int) - 1)=(j:Int) - 1:=by rw[jH];have:=HN.out.2;omega
    have B1:=HB.out.grow hg;obtain⟨av,iJ,hv,hstep⟩:=wM hr j;obtain⟨r1,g1,_⟩:=cB hr #[I j] 3;have c0:=B1.cell;have c1:=(B1.grow g1).cell;have hb0:L' b0=none:=by obtain⟨_,hx⟩:=B1;exact hx.1
    have HB0:=U (zA hb0 c0);clear hb0;have p2:wr.cell? (J A.bp 2)=some v1:=hr.bK 2 rfl;have p3:(wr.alloc (.cells #[I j] 3)).cell? (J A.bp 2)=some v1:=r1.bK 2 rfl;have aS:(wr.alloc (.cells #[I j] 3)).ownsRow 0 3 1 v1 (fZ D k).free.length ((fZ D k).free.map i64):=mF r1;have hv':v1=.slice av (fZ D k).free.length iJ:=hv;have hfl:(fZ D k).free.length=D.free.length+k:=by unfold fZ;simp;omega
    rw[hv'] at p2 p3 aS;have HST:=U hstep;have HV:=U hv';have HO:=U aS;have HL:=U (zA hlt (zA hj (zA ej (zA hfl hg))));have hlen:(fZ D k).free.length<200000:=by have:=HN.out.1;have:=HN.out.2;omega
    clear hr hg B1 r1 g1 hstep hv hv' aS hfl hlt hj ej V;generalize (fZ D k).free.length=len at*;obtain⟨i0,hi,hz0,hz1,hz2⟩:=info_parts zP;go_wp2_with fail
    go_region_law (first|(refine Ow.kM _ (.tmp 16) (.tmp 18) 36 rfl 0 _ i0 _ 1 8 Tryz.underlying36 hi hz0 hz1 hz2 rfl (by decide) (.slice av len iJ) len ((fZ D k).free.map i64) rfl HO.out (J wr.heap.size 0) 1 1 (by omega) [I j] rfl rfl (by intro j' u hu;exact Ow.iF wr [I j] _ _ rfl j' u hu) (by intro u hu;obtain rfl:=List.mem_singleton.1 hu;rfl) (by unfold maxLen;omega) (by omega) (zz _) ?_;intro v' w2 q1 q2 q3;obtain⟨r1,r2,r3,r4⟩:=HST.out v' w2 q1 (by show (wr.alloc _).grownBy w2 v1.ownBlock;rw[HV.out];exact pM q2) (by show v'.ownBlock=v1.ownBlock∨_;rw[HV.out];exact q3);obtain⟨a4,cap4,rfl,_⟩:=Ow.bD q1;have R1:=U r1;have Vy:=r4 b0 _ HB0.out.1 HB0.out.2;clear r1 r4 q1 q2 q3))
    all_goals
     go_wp2_with fail
     go_roundw
     case rel=>
      obtain⟨h1,h2,h3,h4,h5⟩:=HL.out;obtain⟨A2,⟨L2,v2,rfl⟩,q1,q2⟩:=R1.out;refine⟨k+1,by omega,by rw[show (D.aC:Int) - 1 - ((k+1:Nat):Int)=(j:Int) - 1 by omega],_,⟨L2,v2,rfl⟩,?_,h5.trans q2⟩;have e:fZ D (k+1)={fZ D k with free:=(fZ D k).free++[j]}:=by
       have:=zQ D k h1;unfold fZ at this ⊢;simp only at this ⊢;rw[this,h2]
      rw[e];exact q1
     case measure=>simp[intOf]<;>omega
  . obtain rfl:k=D.aC:=by omega
    have em:(D.aC:Int) - 1 - (D.aC:Int)=-1:=by omega
    rw[em];have HL:=U (zA hr hg);clear hr hg hlt V em;go_wp2_with fail
    go_end0
    exact⟨rfl,_,⟨L',v1,rfl⟩,HL.out.1,HL.out.2⟩
structure oo (A A':au):Prop where
 ex:∃ L v m,A'={A with L:=L,eO:=v,mp:=m}
 mp:A'.mp=A.mp
theorem oo.refl (A:au):oo A A:=⟨⟨_,_,_,rfl⟩,rfl⟩
def LH (A:au) (w:World) (bE:St) (v:Value):Ending->World->Prop:=fun e G=>e=.returned v∧∃ A',oo A A'∧aD A' bE G∧Grow A.L w A'.L G
theorem Gc (hR:aD A D w) (hm:A.mp=0) (hn:D.free.length<100000):
 zk 137 #[R A.bp 0] w (LH A w D.list (.tuple #[])):=by
 obtain⟨r1,g1,f0⟩:=cB hR #[R A.bp 0] 102;have c0:=f0.cell 0 (v:=R A.bp 0) rfl
 by_cases hl:D.listed=true
 . have p4:(w.alloc (.cells #[R A.bp 0] 102)).cell? (J A.bp 4)=some (.int .u32 1):=r1.bK 4 (by simp[kF,iC,hl])
   have hd:=DC (J A.bp 4) (.func (.func 161) #[] #[R w.heap.size 0]) _ p4;have e:D.list=D:=by unfold St.list;rw[aV hl]
   rw[e];have HR:=U (zA r1 g1);have HD:=U hd;clear hR r1 g1 f0 hd e hl hn p4 hm;go_enter Tryz.func137,Tryz.ntmps137;go_wp2_with (go_at_call 146;refine HD.out.mono ?_;rintro e G ⟨rfl,rfl⟩)
   go_end0
   exact⟨rfl,A,oo.refl A,HR.out.1,HR.out.2⟩
 . have hl':D.listed=false:=by simpa using hl
   have p4:(w.alloc (.cells #[R A.bp 0] 102)).cell? (J A.bp 4)=some (.int .u32 0):=r1.bK 4 (by simp[kF,iC,hl']);have p5:(w.alloc (.cells #[R A.bp 0] 102)).cell? (J A.bp 5)=some (.int .i32 0):=r1.bK 5 (by simp[kF,iC,hm]);obtain⟨r2,g2⟩:=r1.zF 1;have Z:=Ey r2 w.heap.size (f0.box.grow g2) hn;have hd:=zO A.bp 4 161 #[R w.heap.size 0] (w.alloc (.cells #[R A.bp 0] 102))
    (fun G=>∃ A',om {A with mp:=1} A'∧aD A' (fZ D D.aC) G∧Grow A.L w A'.L G) p4 p5 (r1.tL 4) (r1.tL 5) (Ce _)
    (Z.mono fun e G ⟨h1,A',h2,h3,h4⟩=>⟨h1,A',h2,h3,(g1.trans g2).trans h4⟩)
    (by
      rintro G ⟨A',⟨L,v,rfl⟩,h3,h4⟩
      exact⟨h3.bK 4 (by simp[kF,iC,fZ,hl']),h3.bK 5 (by simp[kF,iC]),h3.tL 4,h3.tL 5⟩)
   have e:D.list={fZ D D.aC with listed:=true}:=by
    have ht:(List.range D.aC).reverse.take D.aC=(List.range D.aC).reverse:=List.take_of_length_le (by simp);unfold St.list fZ;rw[aX hl,ht]
   rw[e];have HD:=U hd;have HM:=U hm;clear hR r1 g1 f0 hd e hl hn p4 p5 r2 g2 Z hl' hm;go_enter Tryz.func137,Tryz.ntmps137;go_wp2_with (go_at_call 146;refine HD.out.mono ?_;rintro e G ⟨rfl,w2,⟨A',⟨L,v,rfl⟩,h3,h4⟩,rfl⟩)
   go_end0
   obtain⟨k1,q1⟩:=h3.drew.FP;obtain⟨k2,q2⟩:=k1.zF 0;exact⟨rfl,_,⟨⟨L,v,0,rfl⟩,HM.out.symm⟩,k2,((h4.trans (Grow.drew _ _)).trans q1).trans q2⟩
theorem zR (hR:aD A D w) (i:Nat) (hi:i<D.aC) (ht:(D.tags.getD i (0,false)).1<=65535):
 zk 158 #[R A.bp 0,I i] w fun e G=>e=.returned (zu ((D.iU i:Nat):Int))∧w=G:=by
 have p0:w.cell? (J A.bp 0)=some (.slice (some (J A.bs 0)) D.aC D.aC):=hR.bK 0 rfl;have t0:=(hR.tag hi).1;have t0':=t0;rw[Nat.mul_comm] at t0';have hsl:=hR.sl;have e:((D.iU i:Nat):Int)=((D.tags.getD i (0,false)).1:Int)*131072+((i:Int)+1):=by unfold St.iU pJ;omega
 have V:=Word.FW (i:Int) ((D.tags.getD i (0,false)).1:Int) (by omega) (by omega) (by omega) (by omega) w;rw[e];have b1:(i:Int)<(D.aC:Int):=by omega
 have b0:(0:Int)<=(i:Int):=by omega
 have HK:=U V;clear hR hi ht hsl e V;generalize (D.tags.getD i (0,false)).1=tg at*;generalize D.aC=n at*;go_enter Tryz.func158,Tryz.ntmps158;go_wp2_with (go_at_call 178;refine HK.out.mono ?_;rintro e G ⟨rfl,rfl⟩);go_ret;exact⟨rfl,rfl⟩
theorem zU {w:World} {e:TypeId} {n:Nat} {v:Value} {xs:List Value} (h:w.ownsRow 0 e 1 v n xs) (hn:0<n):∃ g cap,v=.slice (some (J g 0)) n cap∧n<=cap∧cap<=9223372036854775807∧w.ownsRow 0 e 1 (.slice (some (J g 0)) (n - 1) cap) (n - 1) xs.dropLast∧(∀ j u,xs[j]? =some u->w.cell? (J g j)=some u):=by
 have hc:=fun g hg=>h.cells (g:=g) hg
 rcases h.2 with ⟨rfl,h0⟩|⟨g,cap,cur,rfl,Z,hg,hnc,hcm,hcs,htake⟩
 . omega
 . have hcm':=hcm
   unfold maxLen at hcm';refine⟨g,cap,rfl,hnc,hcm',⟨by rw[List.length_dropLast,h.1];omega,.inr ⟨g,cap,cur,rfl,Z,hg,by omega,hcm,hcs,?_⟩⟩,fun j u hj=>?_⟩
   . rw[<-htake,List.dropLast_eq_take,List.take_take]
     congr 1
     have:(cur.toList.take (n*1)).length=n:=by rw[htake,h.1];omega
     omega
   . have:=hc g rfl j u hj
     have hadd:((J g 0):Addr).add j=(J g j):=by unfold Addr.add;split<;>simp_all
     rw[hadd] at this;exact this
def yh:Option Nat->Value
 |some l=>.tuple #[zu l,I 0]
 |none=>.tuple #[zu 0,I 15]
theorem wN {D:St} (h:D.list.free.getLast? =none):D.take=(D.list,none):=by unfold St.take;simp only[h]
theorem wO {D:St} {i:Nat} (h:D.list.free.getLast? =some i):D.take=({D.list with free:=D.list.free.dropLast,tags:=D.list.tags.set i ((D.list.tags.getD i (0,false)).1,true)},some (D.list.iU i)):=by unfold St.take;simp only[h]
theorem Gd (hR:aD A D w) (hm:A.mp=0) (hn:D.free.length<100000) (hfree:∀ i∈D.list.free,i<D.aC) (htag:∀ i,i<D.aC->(D.tags.getD i (0,false)).1<=65535):
 zk 167 #[R A.bp 0] w fun e G=>
  e=.returned (yh D.take.2)∧∃ A',oo A A'∧aD A' D.take.1 G∧Grow A.L w A'.L G:=by
 have hl:=Gc hR hm hn;have hsl:D.list.aC=D.aC:=by unfold St.list;split<;>rfl
 have Gf:D.list.tags=D.tags:=by unfold St.list;split<;>rfl
 have hb1:D.list.free.length<200000:=by
  have:=hR.sl;unfold St.list
  split
  . omega
  . simp;omega
 have HL:=U hl;have HF:=U (zA hfree (zA htag (zA hsl Gf)));have HS:=U hR.sl;clear hR hm hn hfree htag hl hsl Gf
 cases hlast:D.list.free.getLast? with
 |none=>
  rw[wN hlast];generalize D.list=aH at*;have hnil:aH.free=[]:=by simpa using hlast
  have HN:=U hnil;clear hlast hnil;go_enter Tryz.func167,Tryz.ntmps167;go_wp2_with (go_at_call 137;refine HL.out.mono ?_;rintro e H ⟨rfl,A1,⟨⟨L1,v1,m1,rfl⟩,hm1⟩,q1,q2⟩;have p2:H.cell? (J A.bp 2)=some v1:=q1.bK 2 rfl;have aS:=mF q1;rw[HN.out] at aS;obtain⟨av,iJ,hv,_⟩:=Ow.bD aS;have hv':v1=.slice av 0 iJ:=hv;rw[hv'] at p2;have HQ:=U (zA q1 (zA q2 hm1));clear q1 q2 aS hv hv' hm1)
  go_ret2
  exact⟨rfl,_,⟨⟨_,_,_,rfl⟩,HQ.out.2.2⟩,HQ.out.1,HQ.out.2.1⟩
 |some i=>
  rw[wO hlast];generalize D.list=aH at*;have hmem:i∈aH.free:=List.mem_of_getLast? hlast;have hne:aH.free≠[]:=by rintro h;rw[h] at hmem;cases hmem
  have hpos:0<aH.free.length:=List.length_pos_iff.2 hne;have hat:(aH.free.map i64)[aH.free.length - 1]? =zt i:=by
   rw[List.getElem?_map,<-List.getLast?_eq_getElem?,hlast];rfl
  have hdrop:(aH.free.map i64).dropLast=aH.free.dropLast.map i64:=List.map_dropLast.symm;have hdl:aH.free.dropLast.length=aH.free.length - 1:=by simp
  have hi:i<D.aC:=HF.out.1 i hmem;have SK:(aH.tags.getD i (0,false)).1<=65535:=by rw[HF.out.2.2.2];exact HF.out.2.1 i hi
  have hs1:aH.aC=D.aC:=HF.out.2.2.1;have FACT:Hid (∀ L1 v1 m1 H,aD {A with L:=L1,eO:=v1,mp:=m1} aH H->∃ g cap,v1=.slice (some (J g 0)) aH.free.length cap∧aH.free.length<=cap∧cap<=9223372036854775807∧H.cell? (J A.bp 2)=some (.slice (some (J g 0)) aH.free.length cap)∧H.frozen? (J A.bp 2)=false∧H.cell? ⟨g,aH.free.length - 1,none⟩=zt i∧H.cell? (J A.bp 0)=some (.slice (some (J A.bs 0)) D.aC D.aC)):=by
   intro L1 v1 m1 H q1;obtain⟨g,cap,e1,e2,e3,e4,e5⟩:=zU (mF q1) hpos;have NB:v1=.slice (some (J g 0)) aH.free.length cap:=e1;refine⟨g,cap,NB,e2,e3,by rw[<-NB];exact q1.bK 2 rfl,q1.tL 2,e5 _ _ hat,by rw[<-hs1];exact q1.bK 0 rfl⟩
  have FIN:Hid (∀ L1 v1 m1 H g cap,aD {A with L:=L1,eO:=v1,mp:=m1} aH H->v1=.slice (some (J g 0)) aH.free.length cap->∀ w2,w2=H.setCell (J A.bp 2) (.slice (some (J g 0)) (aH.free.length - 1) cap)->aD {A with L:=L1,eO:=.slice (some (J g 0)) (aH.free.length - 1) cap,mp:=m1} {aH with free:=aH.free.dropLast} w2∧Grow L1 H L1 w2):=by
   rintro L1 v1 m1 H g cap q1 rfl w2 rfl;obtain⟨g',cap',e1,e2,e3,e4,e5⟩:=zU (mF q1) hpos;simp only[Value.slice.injEq,Option.some.injEq,Addr.mk.injEq,and_true,true_and] at e1;obtain⟨rfl,rfl⟩:=e1;exact q1.I4 aH.free.dropLast _ (by rw[hdl,<-hdrop];exact e4) rfl
  have hlk:({aH with free:=aH.free.dropLast,tags:=aH.tags.set i ((aH.tags.getD i (0,false)).1,true)}:St).iU i=aH.iU i∧(({aH with free:=aH.free.dropLast,tags:=aH.tags.set i ((aH.tags.getD i (0,false)).1,true)}:St).tags.getD i (0,false)).1=(aH.tags.getD i (0,false)).1:=by
   by_cases hlt:i<aH.tags.length
   . unfold St.iU
     simp only[jy _ _ _ _ _ hlt,aV];exact⟨trivial,trivial⟩
   . unfold St.iU
     simp[List.set_eq_of_length_le (by omega:aH.tags.length<=i)]
  have AFTER : Hid (∀ L1 m1 H g cap, aD { A with L := L1, eO := .slice (some (J g 0)) aH.free.length cap, mp := m1 } aH H ->
      (H.setCell (J A.bp 2) (.slice (some (J g 0)) (aH.free.length - 1) cap)).cell? ⟨A.bs,i*2+1,none⟩=some (.bool (aH.tags.getD i (0,false)).2)∧(H.setCell (J A.bp 2) (.slice (some (J g 0)) (aH.free.length - 1) cap)).frozen? ⟨A.bs,i*2+1,none⟩=false∧
      aD {A with L:=L1,eO:=.slice (some (J g 0)) (aH.free.length - 1) cap,mp:=m1} {aH with free:=aH.free.dropLast,tags:=aH.tags.set i ((aH.tags.getD i (0,false)).1,true)} ((H.setCell (J A.bp 2) (.slice (some (J g 0)) (aH.free.length - 1) cap)).setCell ⟨A.bs,i*2+1,none⟩ (.bool true))∧
      Grow L1 H L1 ((H.setCell (J A.bp 2) (.slice (some (J g 0)) (aH.free.length - 1) cap)).setCell ⟨A.bs,i*2+1,none⟩ (.bool true))∧
      zk 158 #[R A.bp 0,I i] ((H.setCell (J A.bp 2) (.slice (some (J g 0)) (aH.free.length - 1) cap)).setCell ⟨A.bs,i*2+1,none⟩ (.bool true)) fun e G=>e=.returned (zu ((aH.iU i:Nat):Int))∧((H.setCell (J A.bp 2) (.slice (some (J g 0)) (aH.free.length - 1) cap)).setCell ⟨A.bs,i*2+1,none⟩ (.bool true))=G):=by
   rw[show i*2+1=2*i+1 by omega];intro L1 m1 H g cap q1;obtain⟨r2,g2⟩:=FIN.out L1 _ m1 H g cap q1 rfl _ rfl;have hi':i<({aH with free:=aH.free.dropLast}:St).aC:=by show i<aH.aC;omega
   obtain⟨r3,g3⟩:=r2.zD hi' true;have zW:=zR r3 i hi' (by rw[show (({aH with free:=aH.free.dropLast,tags:=aH.tags.set i ((aH.tags.getD i (0,false)).1,true)}:St).tags.getD i (0,false)).1=_ from hlk.2];exact SK);rw[show _=aH.iU i from hlk.1] at zW;exact⟨(r2.tag hi').2,r2.LB _,r3,g2.trans g3,zW⟩
  have b1:(0:Int)<=(i:Int):=by omega
  have b2:(i:Int)<(D.aC:Int):=by omega
  have d1:((aH.free.length:Int)==0)=false:=by simp;omega
  have d2:((aH.free.length:Int)=0)=False:=by simp;omega
  have d3:(aH.free.length==0)=false:=by simp;omega
  have n1:(1:Int)<=(aH.free.length:Int):=by omega
  have n2:(aH.free.length:Int)<200000:=by omega
  have n3:((aH.free.length:Int) - 1).toNat=aH.free.length - 1:=by omega
  have n4:IntKind.i64.wrap ((aH.free.length:Int) - 1)=(aH.free.length:Int) - 1:=by rw[jH];omega
  clear hlast hmem hne hat hdrop hdl hi SK hs1 hlk hb1 hpos FIN;generalize hlen:aH.free.length=n at*;have n5:(n:Int) - 1<(n:Int):=by omega
  have n6:(0:Int)<=(n:Int) - 1:=by omega
  clear hlen n2;go_enter Tryz.func167,Tryz.ntmps167;go_wp2_with (first|(go_at_call 137;refine HL.out.mono ?_;rintro e H ⟨rfl,A1,⟨⟨L1,v1,m1,rfl⟩,hm1⟩,q1,q2⟩;obtain⟨g,cap,rfl,f1,f2,p2,z2,pc,p0⟩:=FACT.out L1 v1 m1 H q1;obtain⟨t1,z1,r3,g3,zW⟩:=AFTER.out L1 m1 H g cap q1;have Ul:=U zW;have HQ:=U (zA r3 (zA (q2.trans g3) hm1));clear q1 q2 r3 g3 hm1 zW)|(go_at_call 158;refine Ul.out.mono ?_;rintro e G ⟨rfl,rfl⟩))
  go_ret2
  exact⟨rfl,_,⟨⟨_,_,_,rfl⟩,HQ.out.2.2⟩,HQ.out.1,HQ.out.2.1⟩
end Go.Proofs.YthicolbbmjfkfaaGreat.Em
