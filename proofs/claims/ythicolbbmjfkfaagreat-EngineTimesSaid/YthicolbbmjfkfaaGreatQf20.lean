import Derived.Test.YthicolbbmjfkfaaGreatQf18
import Derived.Deep.RegionWith
set_option linter.unusedVariables false
set_option linter.unusedSimpArgs false
set_option maxRecDepth 100000
set_option maxHeartbeats 1600000
namespace Go.Proofs.YthicolbbmjfkfaaGreat.Em
open Go.ChangeShapes Go.WideShapes Go.ChangeAt Go.RowKit En
theorem uX (l:List (Dl×Value)):(gL l).length=l.length*6:=by
 unfold gL
 induction l with
 |nil=>rfl
 |cons a l ih=>rw[List.flatMap_cons,jb,ih,List.length_cons,show (mE a.1 a.2).length=6 from rfl];omega
theorem qx:∀ (l:List (Dl×Value)) (k j:Nat),j<6->(gL l)[k*6+j]? =(l[k]?).bind fun p=>(mE p.1 p.2)[j]?
 |[],_,_,_=>rfl
 |a::l,0,j,hj=>by
  unfold gL;rw[List.flatMap_cons,Nat.zero_mul,Nat.zero_add,List.getElem?_append_left (by exact hj)];rfl
 |a::l,k+1,j,hj=>by
  have h:=qx l k j hj;unfold gL at h ⊢;rw[List.flatMap_cons,EB (by show 6<=_;omega),show (k+1)*6+j - (mE a.1 a.2).length=k*6+j by show _ - 6=_;omega,h];rfl
theorem qy:∀ (l:List (Dl×Value)) (k j:Nat) (u:Value) (p p':Dl×Value),j<6->l[k]? =some p->(mE p.1 p.2).set j u=mE p'.1 p'.2->(gL l).set (k*6+j) u=gL (l.set k p')
 |[],_,_,_,_,_,_,h,_=>by cases h
 |a::l,0,j,u,p,p',hj,h,he=>by
  obtain rfl:a=p:=by simpa using h
  unfold gL;rw[List.flatMap_cons,Nat.zero_mul,Nat.zero_add,List.set_append_left _ _ (by exact hj),he];rfl
 |a::l,k+1,j,u,p,p',hj,h,he=>by
  have ih:=qy l k j u p p' hj (by simpa using h) he;unfold gL at ih ⊢;rw[List.flatMap_cons,List.set_append_right _ _ (by show 6<=_;omega),show (k+1)*6+j - (mE a.1 a.2).length=k*6+j by show _ - 6=_;omega,ih];rfl
theorem kW.rowOf {L:eH} {w:World} {size:Nat} {v:Value} {xs:List Value}:∀ {ks:List Kept},kW L w ks->Kept.row size v xs∈ks->iJ L w size v xs
 |[],_,h=>by cases h
 |x::ks,t,h=>by
  rcases List.mem_cons.1 h with rfl|h
  . exact t.1
  . exact kW.rowOf t.2 h
section
variable {B:dW} {V:Nat} {w0 w E:World} {ks:List Kept} {W:Wd}
theorem I9 {w:World} {base:Nat} {e:TypeId} {size:Nat} {v:Value} {n:Nat} {xs:List Value} (h:w.ownsRow base e size v n xs) (hn:0<n):∃ g cap,v=.slice (some (J g 0)) n cap∧n<=cap∧cap<=maxLen:=by
 rcases h.2 with ⟨_,h0⟩|⟨g,cap,cur,hv,Z,hg,hnc,hcm,_⟩
 . omega
 . exact⟨g,cap,hv,hnc,hcm⟩
theorem WK.Bl (h:WK B V w0 ks W w) {k:Nat} {p:Dl×Value} (Y:B.ds[k]? =some p):∃ g cap,B.vd=.slice (some (J g 0)) B.ds.length cap∧B.ds.length<=cap∧cap<=maxLen∧B.M g=some .aQ∧∀ j v,j<6->(mE p.1 p.2)[j]? =some v->w.cell? ⟨g,k*6+j,none⟩=some v∧w.frozen? ⟨g,k*6+j,none⟩=false:=by
 have hlt:k<B.ds.length:=(List.getElem?_eq_some_iff.1 Y).1;obtain⟨A,rfl,l,r,g0,t⟩:=h.ex;have ho:=r.mem.all .aQ;obtain⟨g,cap,hv,hnc,hcm⟩:=I9 ho.1 (by omega);refine⟨g,cap,hv,hnc,hcm,ho.2 g (by rw[hv];rfl),fun j v hj hv'=>?_⟩;have h1:=ho.1;rw[hv] at h1;have hl:=uX B.ds;refine⟨?_,h1.frozenAt _⟩;rw[h1.cellAt (k*6+j) (by omega),qx _ _ _ hj,Y];exact hv'
theorem WK.wT (h:WK B V w0 ks W w) {k:Nat} {p:Dl×Value} (Y:B.ds[k]? =some p):w.ownsRow 0 178 9 p.2 p.1.ops.length (B.cs k)∧∀ g,p.2.ownBlock=some g->B.M g=some (.reads k):=by
 obtain⟨A,rfl,l,r,g0,t⟩:=h.ex;have ho:=r.mem.all (.reads k);simp only[vD,Y] at ho;exact ho
theorem WK.vM (h:WK B V w0 ks W w) {k:Nat} {p:Dl×Value} (Y:B.ds[k]? =some p) {j:Nat} (hj:j<6) (u:Value) (d':Dl) (hd:(mE p.1 p.2).set j u=mE d' p.2) (hops:d'.ops=p.1.ops) {g cap:Nat} (hg:B.vd=.slice (some (J g 0)) B.ds.length cap):
 WK {B with ds:=B.ds.set k (d',p.2)} V w0 ks {W with bq:=W.bq.set k d'} (w.setCell ⟨g,k*6+j,none⟩ u):=by
 have hlt:k<B.ds.length:=(List.getElem?_eq_some_iff.1 Y).1;have hge:∀ b r,B.M b=some r->w0.heap.size<=b:=fun b r=>h.ge
 obtain⟨A,rfl,l,r,g0,t⟩:=h.ex;have ho:=r.mem.all .aQ;have hgm:B.M g=some .aQ:=ho.2 g (by rw[hg];rfl);have hl:A.L g=some .tmp:=r.tie _ _ hgm;have dE:=But.setCell w ⟨g,k*6+j,none⟩ u;have h1:=ho.1;rw[hg] at h1;obtain⟨hs,_⟩:=h1.stored (k*6+j) u;rw[qy B.ds k j u p (d',p.2) hj Y hd] at hs;refine⟨A,rfl,l.but hl dE,⟨r.tie,?_,fun k' p' hk'=>?_,?_,r.i8,r.o8⟩,g0.but (hge _ _ hgm) dE,KW.soft (dE.soft hl) (fun b hb1 hb2 _=>⟨hb2,dE.block b (by rintro rfl;rw[hgm] at hb1;cases hb1),hb1⟩) t⟩
 . refine r.mem.upd .aQ ?_ (fun q hq=>?_) (fun b q hb' hl' hq=>dE.block b ?_) (fun _ _=>rfl) (fun b hb'=>r.mem.fresh b (by rw[<-dE.size];exact hb'))
   . show Entry.Holds B.M _ .aQ (.own B.vd _ 6 (B.ds.set k (d',p.2)).length (gL (B.ds.set k (d',p.2))))
     rw[nD,hg];refine⟨hs,fun g' hg'=>?_⟩;obtain rfl:g=g':=by simpa [Value.ownBlock] using hg'
     exact hgm
   . cases q with
     |aQ=>exact absurd rfl hq
     |reads k'=>
      simp only[vD]
      by_cases hkk:k'=k
      . subst hkk
        rw[List.getElem?_set_self hlt,Y];show Entry.own p.2 _ 9 d'.ops.length _=_;rw[hops]
      . rw[List.getElem?_set_ne (Ne.symm hkk)]
     |_=>rfl
   . rintro rfl
     rw[hgm] at hl';exact hq (zj hl').symm
 . by_cases hkk:k'=k
   . subst hkk
     replace hk':(B.ds.set k' (d',p.2))[k']? =some p':=hk';rw[List.getElem?_set_self hlt] at hk';obtain rfl:=zj hk';show I8 A.L _ d'.ops (B.cs k');rw[hops];exact (r.cls k' p Y).soft (dE.soft hl)
   . replace hk':(B.ds.set k (d',p.2))[k']? =some p':=hk'
     rw[List.getElem?_set_ne (Ne.symm hkk)] at hk';exact (r.cls k' p' hk').soft (dE.soft hl)
 . show (B.ds.set k (d',p.2)).map (·.1)=W.bq.set k d'
   rw[<-r.dl,List.map_set]
theorem WK.TF {H:World} {v':Value} (h:WK B V w0 ks W w) {k:Nat} {p:Dl×Value} (Y:B.ds[k]? =some p) (oo:En.Op) (rr:mo) (vp:Value) (hp:Kept.row 2 vp (bQ rr.aL)∈ks) (Z:Below w.heap.size w H)
 (ho:E.ownsRow 0 178 9 v' (p.1.ops.length+1) (B.cs k++uj oo rr vp)) (hg:H.grownBy E p.2.ownBlock) (h3:v'.ownBlock=p.2.ownBlock∨∀ g,v'.ownBlock=some g->H.heap.size<=g) {gd cap:Nat} (hgd:B.vd=.slice (some (J gd 0)) B.ds.length cap):
 E.cell? ⟨gd,k*6+5,none⟩=some p.2∧E.frozen? ⟨gd,k*6+5,none⟩=false∧(∀ a v,a.block<w.heap.size->p.2.ownBlock≠some a.block->w.cell? a=some v->E.cell? a=some v)∧
 ∃ B',B'.bw=B.bw∧WK B' V w0 ks {W with bq:=W.bq.set k {p.1 with ops:=p.1.ops++[(oo,rr)]}} (E.setCell ⟨gd,k*6+5,none⟩ v'):=by
 have hlt:k<B.ds.length:=(List.getElem?_eq_some_iff.1 Y).1;have h1:=h.below Z;have hge:∀ b r,B.M b=some r->w0.heap.size<=b:=fun b r=>h1.ge
 have hrow:=h1.wT Y;obtain⟨A,rfl,l,r,g,t⟩:=h1.ex;have hod:=r.mem.all .aQ;have hgm:B.M gd=some .aQ:=hod.2 gd (by rw[hgd];rfl);have qo:wQ A.L p.2:=fun b Z=>r.tie b _ (hrow.2 b Z)
 obtain⟨L',aY,KZ⟩:=rF l qo ho hg h3;have hgr:=r.mem.grown (.reads k) (v:=p.2) (v':=v') (n:=p.1.ops.length) (n':=p.1.ops.length+1) (xs:=B.cs k) (by simp only[vD,Y]) hg ho h3;obtain⟨hm,YJ⟩:=hgr;have hlt':gd<H.heap.size:=r.lt hgm;have hne:some gd≠p.2.ownBlock:=by
  intro e;have:=hrow.2 gd e.symm;rw[hgm] at this;cases this
 have hd0:=hm.all .aQ;rw[aT _ _ (by simp)] at hd0;have hd1:=hd0.1;rw[hgd] at hd1;have hc1:E.cell? ⟨gd,k*6+5,none⟩=some p.2:=by
  rw[hd1.cellAt (k*6+5) (by have:=uX B.ds;omega),qx _ _ _ (by omega),Y];rfl
 obtain⟨hs,_⟩:=hd1.stored (k*6+5) v';rw[qy B.ds k 5 v' p ({p.1 with ops:=p.1.ops++[(oo,rr)]},v') (by omega) Y rfl] at hs;have hlb:L' gd=some .tmp:=(aY.lab _ hlt').trans (r.tie _ _ hgm);have dE:=But.setCell E ⟨gd,k*6+5,none⟩ v';have sW:=dE.soft hlb;have hvp:iJ A.L H 2 vp (bQ rr.aL):=kW.rowOf t.1 hp;refine⟨hc1,hd1.frozenAt _,fun a v ha hna hc=>?_,{B with M:=lW B.M v' (.reads k),ds:=B.ds.set k ({p.1 with ops:=p.1.ops++[(oo,rr)]},v'),cs:=fun i=>if i=k then B.cs k++uj oo rr vp else B.cs i},rfl,{A with L:=L'},rfl,(l.Bf aY).but hlb dE,⟨fun b q hbq=>?_,?_,fun k' p' hk'=>?_,?_,r.i8,r.o8⟩,(g.Bf aY (fun b Z=>hge b _ (hrow.2 b Z))).but (hge _ _ hgm) dE,KW.soft (aY.soft.trans sW) (Bj (r:=.reads k) aY hgm (fun g hg=>hrow.2 g hg) hg h3 dE) t⟩
 . rw[World.cell?_of_block (w:=w) ((hg.block a.block (yI ha Z.size) (fun e=>hna e.symm)).trans (Z.block a.block ha))];exact hc
 . replace hbq:lW B.M v' (.reads k) b=some q:=hbq
   unfold lW at hbq
   split at hbq
   . rename_i hv
     exact KZ b hv
   . exact (aY.lab b (r.lt hbq)).trans (r.tie b q hbq)
 . have hgl:lW B.M v' (.reads k) gd=some .aQ:=by
    unfold lW;rw[bu]
    . exact hgm
    . intro e
      rcases h3 with h3|h3
      . exact hne (h3 ▸ e.symm)
      . have:=h3 gd e;omega
   refine hm.upd .aQ ?_ (fun q hq=>?_) (fun b q hb' hl' hq=>dE.block b ?_) (fun _ _=>rfl) (fun b hb'=>hm.fresh b (by rw[<-dE.size];exact hb'))
   . show Entry.Holds (lW B.M v' (.reads k)) _ .aQ (.own B.vd _ 6 (B.ds.set k _).length (gL (B.ds.set k ({p.1 with ops:=p.1.ops++[(oo,rr)]},v'))))
     rw[nD,hgd];refine⟨hs,fun g' hg'=>?_⟩;obtain rfl:gd=g':=by simpa [Value.ownBlock] using hg'
     exact hgl
   . cases q with
     |aQ=>exact absurd rfl hq
     |reads k'=>
      by_cases hkk:k'=k
      . subst hkk
        rw[fE];simp only[vD];rw[List.getElem?_set_self hlt];simp only[if_true,jb];rfl
      . rw[aT _ _ (by simpa using hkk)]
        simp only[vD];rw[List.getElem?_set_ne (Ne.symm hkk),bu hkk]
     |_=>rw[aT _ _ (by simp)];rfl
   . intro e
     replace e:b=gd:=e;subst e;replace hl':lW B.M v' (.reads k) b=some q:=hl';rw[hgl] at hl';exact hq (zj hl').symm
 . by_cases hkk:k'=k
   . subst hkk
     replace hk':(B.ds.set k' ({p.1 with ops:=p.1.ops++[(oo,rr)]},v'))[k']? =some p':=hk';rw[List.getElem?_set_self hlt] at hk';obtain rfl:=zj hk';show I8 L' _ (p.1.ops++[(oo,rr)]) (if k'=k' then _ else _);rw[aW rfl];exact (((r.cls k' p Y).snoc oo rr vp hvp).soft aY.soft).soft sW
   . replace hk':(B.ds.set k ({p.1 with ops:=p.1.ops++[(oo,rr)]},v'))[k']? =some p':=hk'
     rw[List.getElem?_set_ne (Ne.symm hkk)] at hk';show I8 L' _ p'.1.ops (if k'=k then _ else _);rw[bu hkk];exact ((r.cls k' p' hk').soft aY.soft).soft sW
 . show (B.ds.set k _).map (·.1)=W.bq.set k _
   rw[<-r.dl,List.map_set]
end
theorem uk {B:dW} {V:Nat} {w0 w:World} {ks:List Kept} {W:Wd} (h:WK B V w0 ks W w) {s:Nat} (hs:s<8) {aC:St} {kd:Nat} (hbe:ig W.D s=some (aC,kd,{})) (hkd:kd=1∨kd=2) (hbz:(W.D.status s).busy=true) (hl1:aC.aA<=W.D.aA+1) (hl2:W.D.aA<=aC.aA) (hl3:W.D.aA<1000000000000000) (hnb:(aC.status s).busy=true) (hnw:(aC.status s).waits=decide (kd=2)):
 zk 57 #[R B.bw 0,I s] w fun e E=>e=.returned (.bool true)∧∃ ks',WK B V w0 (ks'++ks) {W with D:=aC} E:=by
 obtain⟨lv,wt,a1,a2,a3,a4,en,a6,hst,hen⟩:∃ lv wt a1 a2 a3 a4,∃ en:Nat,∃ a6,dF (W.D.status s)=#[.bool lv,.bool true,.bool wt,I a1,I a2,I a3,zu a4,zu en,I a6]∧en=(W.D.status s).ay:=by
  refine⟨(W.D.status s).live,(W.D.status s).waits,((W.D.status s).id:Int),((W.D.status s).ax:Int),((W.D.status s).state:Int),((W.D.status s).aJ:Int),(W.D.status s).ay,((W.D.status s).ops:Int),?_,rfl⟩;unfold dF;rw[hbz]
 obtain⟨lk,hlk⟩:∃ lk,lk=W.D.aA:=⟨_,rfl⟩
 obtain⟨ni,og⟩:∃ ni,ni=aC.aA:=⟨_,rfl⟩
 rw[<-hlk] at hl1 hl2 hl3;rw[<-og] at hl1 hl2;obtain⟨RU,K7,K8,K9,La,q9,Lb,sZ⟩:∃ RU K7 K8 K9 La,∃ q9:Nat,∃ Lb,dF (aC.status s)=#[.bool RU,.bool true,.bool (decide (kd=2)),I K7,I K8,I K9,zu La,zu q9,I Lb]:=by
  refine⟨(aC.status s).live,((aC.status s).id:Int),((aC.status s).ax:Int),((aC.status s).state:Int),((aC.status s).aJ:Int),(aC.status s).ay,((aC.status s).ops:Int),?_⟩;unfold dF;rw[hnb,hnw]
 clear hnb hnw hbz hen;have hq:∃ kz:Int,kz=(kd:Int)∧∃ wz:Bool,wz=decide (kd=2)∧((kz=1∧wz=false)∨(kz=2∧wz=true)):=⟨_,rfl,_,rfl,by rcases hkd with rfl|rfl<;>simp⟩
 obtain⟨kz,hkz,wz,hwz,hq⟩:=hq;rw[<-hwz] at sZ;clear hwz hkd
 rcases hq with ⟨rfl,rfl⟩|⟨rfl,rfl⟩
 . have N1:Hid (∀ ks H,WK B V w0 ks W H->zk 10 #[R V 0,I s] H fun e E=>e=.returned (.agg #[.bool lv,.bool true,.bool wt,I a1,I a2,I a3,zu a4,zu en,I a6])∧WK B V w0 ks W E):=fun ks H q=>by
    have hh:=fF q s hs;rw[hst] at hh;exact hh
   have N2:Hid (∀ ks H,WK B V w0 ks W H->zk 56 #[R V 0] H fun e E=>e=.returned (I lk)∧H=E):=fun ks H q=>by
    have hh:=iR q;rw[<-hlk] at hh;exact hh
   have N3:Hid (∀ ks H,WK B V w0 ks W H->zk 34 #[R V 0,I s] H fun e E=>∃ va vc,e=.returned (.tuple #[.agg #[I 1,I 0,I 0,.slice va 0 vc,I 0,I 0],I 0])∧WK B V w0 (.row 2 (.slice va 0 vc) (bQ [])::ks) {W with D:=aC} E):=fun ks H q=>by
    refine (sV q hs hbe).mono ?_;rintro e E ⟨va,vn,vc,rfl,yX,q⟩;subst yX;rw[<-hkz] at*;exact⟨va,vc,rfl,q⟩
   have N4:Hid (∀ ks H,WK B V w0 ks {W with D:=aC} H->zk 56 #[R V 0] H fun e E=>e=.returned (I ni)∧H=E):=fun ks H q=>by
    have hh:=iR q;rw[<-og] at hh;exact hh
   have N5:Hid (∀ ks H,WK B V w0 ks {W with D:=aC} H->zk 10 #[R V 0,I s] H fun e E=>e=.returned (.agg #[.bool RU,.bool true,.bool false,I K7,I K8,I K9,zu La,zu q9,I Lb])∧WK B V w0 ks {W with D:=aC} E):=fun ks H q=>by
    have hh:=fF q s hs;rw[sZ] at hh;exact hh
   have C:Hid (∀ bF ks H,WK B V w0 ks {W with D:=bF} H->H.cell? (J B.bw 0)=zs V 0):=fun bF ks H q=>(q.fZ 0 rfl).1
   have O1:Hid (∀ ks W1 H g,WK B V w0 (.obj g (.cells #[.bool lv,.bool true,.bool wt,I a1,I a2,I a3,zu a4,zu en,I a6] 42)::ks) W1 H->zB H g 1 true∧zV H g 7 en):=fun ks W1 H g q=>by
    have Z:=q.obj (iG);exact⟨au Z 1 rfl,au Z 7 rfl⟩
   have b0:((s:Int)<0)=False:=by simp
   have b1:((7:Int)<(s:Int))=False:=by simp;omega
   have b2:(0:Int)<=(s:Int):=by omega
   have b3:(s:Int)<8:=by omega
   have b4:decide ((s:Int)<0)=false:=by simp
   have b5:decide ((7:Int)<(s:Int))=false:=by simp;omega
   have b6:(7<s)=False:=by simp;omega
   have n1:IntKind.i64.wrap ((lk:Int)+1)=(lk:Int)+1:=by rw[je];omega
   have c1:((lk:Int)+1<(ni:Int))=False:=by simp;omega
   have c2:decide ((lk:Int)+1<(ni:Int))=false:=by simp;omega
   have c3:((ni:Int)<(lk:Int))=False:=by simp;omega
   have c4:decide ((ni:Int)<(lk:Int))=false:=by simp;omega
   have c5:(ni<lk)=False:=by simp;omega
   clear hkz;have T0:=U h;have x0:=C.out W.D _ _ T0.out;clear hst sZ hlk og hl1 hl2 hl3 hbe h hs;go_enter Tryz.func57,Tryz.ntmps57;go_upto_region 11 with (first|(go_at_call 10;refine (N1.out _ _ T0.out).mono ?_;clear T0;rintro e H ⟨rfl,q⟩;have x1:=C.out W.D _ _ (q.alloc (.cells #[.bool lv,.bool true,.bool wt,I a1,I a2,I a3,zu a4,zu en,I a6] 42));have T1:=U (q.alloc (.cells #[.bool lv,.bool true,.bool wt,I a1,I a2,I a3,zu a4,zu en,I a6] 42));clear q)|(go_at_call 56;refine (N2.out _ _ T1.out).mono ?_;rintro e E ⟨rfl,rfl⟩;have T2:=T1;clear T1)|(go_at_call 34;refine (N3.out _ _ T2.out).mono ?_;clear T2;rintro e w3 ⟨va,vc,rfl,q⟩;have q2:=q.alloc (.cells #[I 1,I 0,I 0,.slice va 0 vc,I 0,I 0] 81);have x3:=C.out aC _ _ q2;obtain⟨y1,y2⟩:=O1.out _ _ _ _ q2.tail.tail;have T3:=U q2;clear q q2)|(go_at_call 56;refine (N4.out _ _ T3.out).mono ?_;rintro e E ⟨rfl,rfl⟩)|(go_at_call 10;refine (N5.out _ _ T3.out).mono ?_;clear T3;rintro e w6 ⟨rfl,q⟩;have q2:=q.alloc (.cells #[.bool RU,.bool true,.bool false,I K7,I K8,I K9,zu La,zu q9,I Lb] 42);have T6:=U q2;clear q q2))
   generalize hv6:w6.alloc _=v6 at*;generalize H.heap.size=g1 at*;generalize w3.heap.size=g2 at*;generalize w6.heap.size=g3 at*;have x6:=C.out aC _ _ T6.out;have k3:=T6.out.obj iG;have k2:=T6.out.tail.obj iG;have k1:=T6.out.tail.tail.tail.obj iG;have z30:=au k3 0 rfl;have z31:=au k3 1 rfl;have z32:=au k3 2 rfl;have z20:=au k2 0 rfl;have z21:=au k2 1 rfl;have z22:=au k2 2 rfl;have z23:=au k2 3 rfl;have z24:=au k2 4 rfl;have z25:=au k2 5 rfl;have z17:=au k1 7 rfl;clear k1 k2 k3 hv6 N1 N2 N3 N4 N5 C O1 b0 b1 b4 b5 b6 c1 c2 c3 c4 c5 n1;have VX:=U (fun H h1=>uW 0 0 0 0 va none 0 vc 0 [] H h1 (Hf H 2));go_wp2_with (go_at_call 12;refine (VX.out _ (T6.out.tail.tail.row iG)).mono ?_;rintro e w9 ⟨rfl,Z⟩;have T9:=U (T6.out.below Z);clear Z);go_ret;exact⟨rfl,[_,_,_,_],T9.out⟩
 . have N1:Hid (∀ ks H,WK B V w0 ks W H->zk 10 #[R V 0,I s] H fun e E=>e=.returned (.agg #[.bool lv,.bool true,.bool wt,I a1,I a2,I a3,zu a4,zu en,I a6])∧WK B V w0 ks W E):=fun ks H q=>by
    have hh:=fF q s hs;rw[hst] at hh;exact hh
   have N2:Hid (∀ ks H,WK B V w0 ks W H->zk 56 #[R V 0] H fun e E=>e=.returned (I lk)∧H=E):=fun ks H q=>by
    have hh:=iR q;rw[<-hlk] at hh;exact hh
   have N3:Hid (∀ ks H,WK B V w0 ks W H->zk 34 #[R V 0,I s] H fun e E=>∃ va vc,e=.returned (.tuple #[.agg #[I 2,I 0,I 0,.slice va 0 vc,I 0,I 0],I 0])∧WK B V w0 (.row 2 (.slice va 0 vc) (bQ [])::ks) {W with D:=aC} E):=fun ks H q=>by
    refine (sV q hs hbe).mono ?_;rintro e E ⟨va,vn,vc,rfl,yX,q⟩;subst yX;rw[<-hkz] at*;exact⟨va,vc,rfl,q⟩
   have N4:Hid (∀ ks H,WK B V w0 ks {W with D:=aC} H->zk 56 #[R V 0] H fun e E=>e=.returned (I ni)∧H=E):=fun ks H q=>by
    have hh:=iR q;rw[<-og] at hh;exact hh
   have N5:Hid (∀ ks H,WK B V w0 ks {W with D:=aC} H->zk 10 #[R V 0,I s] H fun e E=>e=.returned (.agg #[.bool RU,.bool true,.bool true,I K7,I K8,I K9,zu La,zu q9,I Lb])∧WK B V w0 ks {W with D:=aC} E):=fun ks H q=>by
    have hh:=fF q s hs;rw[sZ] at hh;exact hh
   have C:Hid (∀ bF ks H,WK B V w0 ks {W with D:=bF} H->H.cell? (J B.bw 0)=zs V 0):=fun bF ks H q=>(q.fZ 0 rfl).1
   have O1:Hid (∀ ks W1 H g,WK B V w0 (.obj g (.cells #[.bool lv,.bool true,.bool wt,I a1,I a2,I a3,zu a4,zu en,I a6] 42)::ks) W1 H->zB H g 1 true∧zV H g 7 en):=fun ks W1 H g q=>by
    have Z:=q.obj (iG);exact⟨au Z 1 rfl,au Z 7 rfl⟩
   have b0:((s:Int)<0)=False:=by simp
   have b1:((7:Int)<(s:Int))=False:=by simp;omega
   have b2:(0:Int)<=(s:Int):=by omega
   have b3:(s:Int)<8:=by omega
   have b4:decide ((s:Int)<0)=false:=by simp
   have b5:decide ((7:Int)<(s:Int))=false:=by simp;omega
   have b6:(7<s)=False:=by simp;omega
   have n1:IntKind.i64.wrap ((lk:Int)+1)=(lk:Int)+1:=by rw[je];omega
   have c1:((lk:Int)+1<(ni:Int))=False:=by simp;omega
   have c2:decide ((lk:Int)+1<(ni:Int))=false:=by simp;omega
   have c3:((ni:Int)<(lk:Int))=False:=by simp;omega
   have c4:decide ((ni:Int)<(lk:Int))=false:=by simp;omega
   have c5:(ni<lk)=False:=by simp;omega
   clear hkz;have T0:=U h;have x0:=C.out W.D _ _ T0.out;clear hst sZ hlk og hl1 hl2 hl3 hbe h hs;go_enter Tryz.func57,Tryz.ntmps57;go_upto_region 11 with (first|(go_at_call 10;refine (N1.out _ _ T0.out).mono ?_;clear T0;rintro e H ⟨rfl,q⟩;have x1:=C.out W.D _ _ (q.alloc (.cells #[.bool lv,.bool true,.bool wt,I a1,I a2,I a3,zu a4,zu en,I a6] 42));have T1:=U (q.alloc (.cells #[.bool lv,.bool true,.bool wt,I a1,I a2,I a3,zu a4,zu en,I a6] 42));clear q)|(go_at_call 56;refine (N2.out _ _ T1.out).mono ?_;rintro e E ⟨rfl,rfl⟩;have T2:=T1;clear T1)|(go_at_call 34;refine (N3.out _ _ T2.out).mono ?_;clear T2;rintro e w3 ⟨va,vc,rfl,q⟩;have q2:=q.alloc (.cells #[I 2,I 0,I 0,.slice va 0 vc,I 0,I 0] 81);have x3:=C.out aC _ _ q2;obtain⟨y1,y2⟩:=O1.out _ _ _ _ q2.tail.tail;have T3:=U q2;clear q q2)|(go_at_call 56;refine (N4.out _ _ T3.out).mono ?_;rintro e E ⟨rfl,rfl⟩)|(go_at_call 10;refine (N5.out _ _ T3.out).mono ?_;clear T3;rintro e w6 ⟨rfl,q⟩;have q2:=q.alloc (.cells #[.bool RU,.bool true,.bool true,I K7,I K8,I K9,zu La,zu q9,I Lb] 42);have T6:=U q2;clear q q2))
   generalize hv6:w6.alloc _=v6 at*;generalize H.heap.size=g1 at*;generalize w3.heap.size=g2 at*;generalize w6.heap.size=g3 at*;have x6:=C.out aC _ _ T6.out;have k3:=T6.out.obj iG;have k2:=T6.out.tail.obj iG;have k1:=T6.out.tail.tail.tail.obj iG;have z30:=au k3 0 rfl;have z31:=au k3 1 rfl;have z32:=au k3 2 rfl;have z20:=au k2 0 rfl;have z21:=au k2 1 rfl;have z22:=au k2 2 rfl;have z23:=au k2 3 rfl;have z24:=au k2 4 rfl;have z25:=au k2 5 rfl;have z17:=au k1 7 rfl;clear k1 k2 k3 hv6 N1 N2 N3 N4 N5 C O1 b0 b1 b4 b5 b6 c1 c2 c3 c4 c5 n1;have VX:=U (fun H h1=>uW 0 0 0 0 va none 0 vc 0 [] H h1 (Hf H 2));go_wp2_with (go_at_call 12;refine (VX.out _ (T6.out.tail.tail.row iG)).mono ?_;rintro e w9 ⟨rfl,Z⟩;have T9:=U (T6.out.below Z);clear Z);go_ret;exact⟨rfl,[_,_,_,_],T9.out⟩
theorem bD {w:World} {o:Obj} {a:Addr} {v:Value} (h:w.cell? a=some v):(w.alloc o).cell? a=some v:=by
 rw[World.cell?_alloc_some _ _ _ (by rw[h];rfl)];exact h
theorem bV {w:World} {a p:Addr} {u v:Value} (hn:p.block≠a.block) (h:w.cell? a=some v):(w.setCell p u).cell? a=some v:=by
 rw[World.cell?_setCell_far _ _ _ _ hn];exact h
theorem Lc:(Tryz.prog.info? 178).map (fun i=>(i.zero,i.size,i.bytes))=some (some (.agg #[I 0,I 0,I 0,I 0,I 0,I 0,.slice none 0 0,I 0,I 0]),9,88):=by kernel_rfl
theorem WK.um {B:dW} {V:Nat} {w0 w:World} {ks:List Kept} {W:Wd} (h:WK B V w0 ks W w) {g:Nat} {ob:Obj} (hm:Kept.obj g ob∈ks):B.M g=none:=by
 obtain⟨A,rfl,l,r,g0,t,th⟩:=h.ex;have:Fix A.L w g ob:=by
  clear h l r g0 th
  induction ks with
  |nil=>cases hm
  |cons x ks ih=>
   rcases List.mem_cons.1 hm with rfl|hm
   . exact t.1
   . exact ih hm t.2
 cases Z:B.M g with
 |none=>rfl
 |some q=>have:=(r.tie g q Z).symm.trans this.1;cases this
theorem wU {B:dW} {V:Nat} {w0 w:World} {ks:List Kept} {W:Wd} (h:WK B V w0 ks W w) {s:Nat} (hs:s<8) {aC:St} {r:mo} (hbe:ig W.D s=some (aC,3,r)) (hbz:(W.D.status s).busy=true) (hl1:aC.aA<=W.D.aA+1) (hl2:W.D.aA<=aC.aA) (hl3:W.D.aA<1000000000000000) (hov:r.over=0) {k:Nat} (hid:W.ids.getD s 0=k+1) {p:Dl} (hp:W.bq[k]? =some p) (hpl:p.ops.length<100000) (hdl:W.bq.length<100000) (hnl:(aC.status s).live=true) (hnb:(aC.status s).busy=false):
 zk 57 #[R B.bw 0,I s] w fun e E=>e=.returned (.bool true)∧∃ ks' B',B'.bw=B.bw∧WK B' V w0 (ks'++ks) {W with D:=aC,bq:=W.bq.set k {p with ops:=p.ops++[(W.ops.getD s default,r)]}} E:=by
 obtain⟨ii,hii,hz0,hz1,hz2⟩:=info_parts Lc;obtain⟨lv,wt,a1,a2,a3,a4,en,a6,hst,hen⟩:∃ lv wt a1 a2 a3 a4,∃ en:Nat,∃ a6,dF (W.D.status s)=#[.bool lv,.bool true,.bool wt,I a1,I a2,I a3,zu a4,zu en,I a6]∧en=(W.D.status s).ay:=by
  refine⟨(W.D.status s).live,(W.D.status s).waits,((W.D.status s).id:Int),((W.D.status s).ax:Int),((W.D.status s).state:Int),((W.D.status s).aJ:Int),(W.D.status s).ay,((W.D.status s).ops:Int),?_,rfl⟩;unfold dF;rw[hbz]
 obtain⟨lk,hlk⟩:∃ lk,lk=W.D.aA:=⟨_,rfl⟩
 obtain⟨ni,og⟩:∃ ni,ni=aC.aA:=⟨_,rfl⟩
 rw[<-hlk] at hl1 hl2 hl3;rw[<-og] at hl1 hl2;obtain⟨UN,K7,K8,K9,La,q9,Lb,sZ⟩:∃ UN K7 K8 K9 La,∃ q9:Nat,∃ Lb,dF (aC.status s)=#[.bool true,.bool false,.bool UN,I K7,I K8,I K9,zu La,zu q9,I Lb]:=by
  refine⟨(aC.status s).waits,((aC.status s).id:Int),((aC.status s).ax:Int),((aC.status s).state:Int),((aC.status s).aJ:Int),(aC.status s).ay,((aC.status s).ops:Int),?_⟩;unfold dF;rw[hnl,hnb]
 clear hnl hnb hbz hen;obtain⟨o,ho⟩:∃ o,o=W.ops.getD s default:=⟨_,rfl⟩
 rw[<-ho];have hl:=h.dl;have hln:=h.KR;obtain⟨⟨pd,pv⟩,Y,TG⟩:∃ q,B.ds[k]? =some q∧q.1=p:=by
  rw[<-hl,List.getElem?_map] at hp
  cases hq:B.ds[k]? with
  |none=>rw[hq] at hp;cases hp
  |some q=>rw[hq] at hp;exact⟨q,rfl,zj hp⟩
 obtain rfl:pd=p:=TG;obtain⟨on,hon⟩:∃ on,on=pd.ops.length:=⟨_,rfl⟩
 have hrow:w.ownsRow 0 178 9 pv pd.ops.length (B.cs k):=(h.wT Y).1;rw[<-hon] at hrow hpl;obtain⟨oa,oc,rfl,_⟩:=Ow.bO hrow;clear hrow;obtain⟨gd,cap,hvd,hc1,hc2,hgm,_⟩:=h.Bl Y;have hkl:k<W.bq.length:=(List.getElem?_eq_some_iff.1 hp).1;obtain⟨n,hn⟩:∃ n,n=W.bq.length:=⟨_,rfl⟩
 rw[hln,<-hn] at hvd hc1;have zp:Hid (∀ ks H,WK B V w0 ks {W with D:=aC} H->H.cell? (J B.bw 1)=some (.slice (some (J gd 0)) n cap)∧zT H B.bw (2+s) ((k:Int)+1)∧H.cell? ⟨gd,k*6+5,none⟩=some (.slice oa on oc)∧H.cell? ⟨B.bw,10+s*4,none⟩=zt o.kind∧H.cell? ⟨B.bw,10+s*4+1,none⟩=zt o.F∧H.cell? ⟨B.bw,10+s*4+2,none⟩=zt o.hi∧H.cell? ⟨B.bw,10+s*4+3,none⟩=zt o.value):=fun ks H q=>by
  have y1:=(q.fZ 1 rfl).1;have y2:=(q.fZ (2+s) (lK (W:={W with D:=aC}) q.i8 hs)).1;rw[hvd] at y1;rw[show ({W with D:=aC}:Wd).ids.getD s 0=k+1 from hid] at y2;obtain⟨UO,cap',hv',_,_,_,hf⟩:=q.Bl Y;rw[hln,<-hn,hvd] at hv';simp only[Value.slice.injEq,Option.some.injEq,Addr.mk.injEq,and_true,true_and] at hv';obtain⟨rfl,rfl⟩:=hv';have y5:=(hf 5 (.slice oa on oc) (by omega) rfl).1;have yo:∀ j (v:Value),j<4->(opC o)[j]? =some v->H.cell? (J B.bw (10+(s*4+j)))=some v:=fun j v hj hv=>(q.fZ _ ((FH q.i8 q.o8 hs hj).trans (by rw[show ({W with D:=aC}:Wd).ops.getD s default=o from ho.symm];exact hv))).1
  exact⟨y1,y2,y5,yo 0 _ (by omega) rfl,yo 1 _ (by omega) rfl,yo 2 _ (by omega) rfl,yo 3 _ (by omega) rfl⟩
 have TH : Hid (∀ ks H va vn vc, WK B V w0 ks { W with D := aC } H -> Kept.row 2 (.slice va vn vc) (bQ r.aL) ∈ ks -> ∀ w2 v' E, Below H.heap.size H w2 -> E.ownsRow 0 178 9 v' (on + 1) (B.cs k ++ [I (o.kind : Int), I (o.F : Int), I (o.hi : Int), I (o.value : Int), I (r.e : Int), I (r.value : Int), .slice va vn vc, I 0, I (r.aI : Int)]) -> w2.grownBy E (Value.slice oa on oc).ownBlock -> (v'.ownBlock = (Value.slice oa on oc).ownBlock ∨ ∀ g, v'.ownBlock = some g -> w2.heap.size <= g) ->
     E.cell? ⟨gd,k*6+5,none⟩=some (.slice oa on oc)∧E.frozen? ⟨gd,k*6+5,none⟩=false∧(∀ a v,a.block<H.heap.size->(Value.slice oa on oc).ownBlock≠some a.block->H.cell? a=some v->E.cell? a=some v)∧
     ∃ B',B'.bw=B.bw∧WK B' V w0 ks {W with D:=aC,bq:=W.bq.set k {pd with ops:=pd.ops++[(o,r)]}} (E.setCell ⟨gd,k*6+5,none⟩ v')):=fun ks H va vn vc q hm w2 v' E Z ho hg h3=>by
  have ho':E.ownsRow 0 178 9 v' (pd.ops.length+1) (B.cs k++uj o r (.slice va vn vc)):=by
   rw[<-hon];unfold uj opC;rw[hov];exact ho
  have TJ:=hvd;rw[hn,<-hln] at TJ;exact q.TF Y o r _ hm Z ho' hg h3 TJ
 have TK:Hid (∀ ks H,WK B V w0 ks {W with D:=aC} H->H.ownsRow 0 178 9 (.slice oa on oc) on (B.cs k)∧on<100000):=fun ks H q=>⟨by have:=(q.wT Y).1;rw[<-hon] at this;exact this,hpl⟩
 have PT:Hid (∀ ks H g ob,WK B V w0 ks {W with D:=aC} H->Kept.obj g ob∈ks->(gd≠B.bw∧gd≠g∧(Value.slice oa on oc).ownBlock≠some B.bw∧(Value.slice oa on oc).ownBlock≠some g)∧B.bw<H.heap.size∧g<H.heap.size):=fun ks H g ob q hm=>by
  obtain⟨A,rfl,l,r',g0,t⟩:=q.ex;have hbw:B.M B.bw=some .bT:=(r'.mem.all .bT).1;have hno:=q.um hm;refine⟨⟨fun e=>?_,fun e=>?_,fun e=>?_,fun e=>?_⟩,r'.lt hbw,gH (q.obj hm)⟩
  . rw[e,hbw] at hgm;cases hgm
  . rw[e,hno] at hgm;cases hgm
  . have:=(q.wT Y).2 _ e;rw[hbw] at this;cases this
  . have:=(q.wT Y).2 _ e;rw[hno] at this;cases this
 clear hc1 hc2;have m2:((k:Int)<0)=False:=by simp
 have m3:decide ((k:Int)<0)=false:=by simp
 have m4:((n:Int)<=(k:Int))=False:=by simp;omega
 have m5:decide ((n:Int)<=(k:Int))=false:=by simp;omega
 have m6:(n<=k)=False:=by simp;omega
 have m7:(k:Int)<(n:Int):=by omega
 have m8:(0:Int)<=(k:Int):=by omega
 have m9:k<n:=by omega
 have kb:k<100000:=by omega
 have m1:IntKind.i64.wrap (k:Int)=(k:Int):=by rw[je];omega
 clear hid hp hpl hdl hl hln Y hvd hgm hkl hn hon ho;have N1:Hid (∀ ks H,WK B V w0 ks W H->zk 10 #[R V 0,I s] H fun e E=>e=.returned (.agg #[.bool lv,.bool true,.bool wt,I a1,I a2,I a3,zu a4,zu en,I a6])∧WK B V w0 ks W E):=fun ks H q=>by
  have hh:=fF q s hs;rw[hst] at hh;exact hh
 have N2:Hid (∀ ks H,WK B V w0 ks W H->zk 56 #[R V 0] H fun e E=>e=.returned (I lk)∧H=E):=fun ks H q=>by
  have hh:=iR q;rw[<-hlk] at hh;exact hh
 have N3:Hid (∀ ks H,WK B V w0 ks W H->zk 34 #[R V 0,I s] H fun e E=>∃ va vn vc,e=.returned (.tuple #[.agg #[I 3,I r.e,I r.value,.slice va vn vc,I 0,I r.aI],I 0])∧WK B V w0 (.row 2 (.slice va vn vc) (bQ r.aL)::ks) {W with D:=aC} E):=fun ks H q=>by
  refine (sV q hs hbe).mono ?_;rintro e E ⟨va,vn,vc,rfl,yX,q⟩;rw[hov];exact⟨va,vn,vc,rfl,q⟩
 have N4:Hid (∀ ks H,WK B V w0 ks {W with D:=aC} H->zk 56 #[R V 0] H fun e E=>e=.returned (I ni)∧H=E):=fun ks H q=>by
  have hh:=iR q;rw[<-og] at hh;exact hh
 have N5:Hid (∀ ks H,WK B V w0 ks {W with D:=aC} H->zk 10 #[R V 0,I s] H fun e E=>e=.returned (.agg #[.bool true,.bool false,.bool UN,I K7,I K8,I K9,zu La,zu q9,I Lb])∧WK B V w0 ks {W with D:=aC} E):=fun ks H q=>by
  have hh:=fF q s hs;rw[sZ] at hh;exact hh
 have C:Hid (∀ bF ks H,WK B V w0 ks {W with D:=bF} H->H.cell? (J B.bw 0)=zs V 0):=fun bF ks H q=>(q.fZ 0 rfl).1
 have O1:Hid (∀ ks W1 H g,WK B V w0 (.obj g (.cells #[.bool lv,.bool true,.bool wt,I a1,I a2,I a3,zu a4,zu en,I a6] 42)::ks) W1 H->zB H g 1 true∧zV H g 7 en):=fun ks W1 H g q=>by
  have Z:=q.obj (iG);exact⟨au Z 1 rfl,au Z 7 rfl⟩
 have b0:((s:Int)<0)=False:=by simp
 have b1:((7:Int)<(s:Int))=False:=by simp;omega
 have b2:(0:Int)<=(s:Int):=by omega
 have b3:(s:Int)<8:=by omega
 have b4:decide ((s:Int)<0)=false:=by simp
 have b5:decide ((7:Int)<(s:Int))=false:=by simp;omega
 have b6:(7<s)=False:=by simp;omega
 have n1:IntKind.i64.wrap ((lk:Int)+1)=(lk:Int)+1:=by rw[je];omega
 have c1:((lk:Int)+1<(ni:Int))=False:=by simp;omega
 have c2:decide ((lk:Int)+1<(ni:Int))=false:=by simp;omega
 have c3:((ni:Int)<(lk:Int))=False:=by simp;omega
 have c4:decide ((ni:Int)<(lk:Int))=false:=by simp;omega
 have c5:(ni<lk)=False:=by simp;omega
 have m0:wrap64 (k:Int)=(k:Int):=by unfold wrap64;omega
 clear kb;have T0:=U h;have x0:=C.out W.D _ _ T0.out;clear hst sZ hlk og hl1 hl2 hl3 hbe h hs hov;go_enter Tryz.func57,Tryz.ntmps57;go_upto_region 11 with (first|(go_at_call 10;refine (N1.out _ _ T0.out).mono ?_;clear T0;rintro e H ⟨rfl,q⟩;have x1:=C.out W.D _ _ (q.alloc (.cells #[.bool lv,.bool true,.bool wt,I a1,I a2,I a3,zu a4,zu en,I a6] 42));have T1:=U (q.alloc (.cells #[.bool lv,.bool true,.bool wt,I a1,I a2,I a3,zu a4,zu en,I a6] 42));clear q)|(go_at_call 56;refine (N2.out _ _ T1.out).mono ?_;rintro e E ⟨rfl,rfl⟩;have T2:=T1;clear T1)|(go_at_call 34;refine (N3.out _ _ T2.out).mono ?_;clear T2;rintro e w3 ⟨va,vn,vc,rfl,q⟩;have q2:=q.alloc (.cells #[I 3,I r.e,I r.value,.slice va vn vc,I 0,I r.aI] 81);have x3:=C.out aC _ _ q2;obtain⟨y1,y2⟩:=O1.out _ _ _ _ q2.tail.tail;have T3:=U q2;clear q q2)|(go_at_call 56;refine (N4.out _ _ T3.out).mono ?_;rintro e E ⟨rfl,rfl⟩)|(go_at_call 10;refine (N5.out _ _ T3.out).mono ?_;clear T3;rintro e w6 ⟨rfl,q⟩;have q2:=q.alloc (.cells #[.bool true,.bool false,.bool UN,I K7,I K8,I K9,zu La,zu q9,I Lb] 42);have T6:=U q2;clear q q2))
 generalize hv6:w6.alloc _=v6 at*;generalize H.heap.size=g1 at*;generalize w3.heap.size=g2 at*;generalize w6.heap.size=g3 at*;have x6:=C.out aC _ _ T6.out;have k3:=T6.out.obj iG;have k2:=T6.out.tail.obj iG;have k1:=T6.out.tail.tail.tail.obj iG;have z30:=au k3 0 rfl;have z31:=au k3 1 rfl;have z32:=au k3 2 rfl;have z20:=au k2 0 rfl;have z21:=au k2 1 rfl;have z22:=au k2 2 rfl;have z23:=au k2 3 rfl;have z24:=au k2 4 rfl;have z25:=au k2 5 rfl;have z17:=au k1 7 rfl;clear k1 k2 k3 hv6 N1 N2 N3 N4 N5 C O1 b0 b1 b4 b5 b6 c1 c2 c3 c4 c5 n1;obtain⟨y1,y2,y5,y6,y7,y8,y9⟩:=zp.out _ _ T6.out;go_upto_region 18 with fail
 have S0:v6.drew.cell? (J B.bw 1)=some (.slice (some (J gd 0)) n cap)∧v6.drew.cell? ⟨B.bw,10+s*4,none⟩=zt o.kind∧v6.drew.cell? ⟨B.bw,10+s*4+1,none⟩=zt o.F∧v6.drew.cell? ⟨B.bw,10+s*4+2,none⟩=zt o.hi∧v6.drew.cell? ⟨B.bw,10+s*4+3,none⟩=zt o.value∧zT v6.drew g2 1 r.e∧zT v6.drew g2 2 r.value∧v6.drew.cell? (J g2 3)=some (.slice va vn vc)∧zT v6.drew g2 4 0∧zT v6.drew g2 5 r.aI:=⟨y1,y6,y7,y8,y9,z21,z22,z23,z24,z25⟩
 have T7:=U T6.out.drew;have OO:=U (TK.out _ _ (T7.out.alloc (.cells #[I o.kind,I o.F,I o.hi,I o.value,I r.e,I r.value,.slice va vn vc,I 0,I r.aI] 178)));have HAD:=U (fun v' E=>TH.out _ _ va vn vc T7.out (nV _ (nV _ iG)) (v6.drew.alloc (.cells #[I o.kind,I o.F,I o.hi,I o.value,I r.e,I r.value,.slice va vn vc,I 0,I r.aI] 178)) v' E ((Below.refl _ _).alloc (zr _) _));obtain⟨e1,e2,e3⟩:=PT.out _ _ g2 _ T7.out (nV _ iG);have GN:=U e1;have GL:=U (zA e2 e3);clear e1 e2 e3 PT TH TK T6 z20 z21 z22 z23 z24 z25 z17 z30 z31 z32 y1 y2 y5 y6 y7 y8 y9 x6 m1 m0;have y5:v6.drew.cell? ⟨gd,k*6+5,none⟩=some (.slice oa on oc):=(zp.out _ _ T7.out).2.2.1;have YK:∀ ob,(v6.drew.alloc ob).cell? ⟨gd,k*6+5,none⟩=some (.slice oa on oc):=fun ob=>bD y5
 clear zp;refine wp_region_held_drew (S:=fun E=>E.cell? (J B.bw 1)=some (.slice (some (J gd 0)) n cap)∧E.cell? ⟨B.bw,10+s*4,none⟩=zt o.kind∧E.cell? ⟨B.bw,10+s*4+1,none⟩=zt o.F∧E.cell? ⟨B.bw,10+s*4+2,none⟩=zt o.hi∧E.cell? ⟨B.bw,10+s*4+3,none⟩=zt o.value∧zT E g2 1 r.e∧zT E g2 2 r.value∧E.cell? (J g2 3)=some (.slice va vn vc)∧zT E g2 4 0∧zT E g2 5 r.aI) (by kernel_rfl) ?_ (fun aD=>?_)
 . (try dsimp only);exact S0
 generalize v6.drew=vd at*;refine gp (i:=0) rfl aD ?_
 (try simp only[dK,dL,dM,Act.put,dN,dO,dP])
 refine gp (i:=1) rfl aD ?_
 (try simp only[dK,dL,dM,Act.put,dN,dO,dP])
 refine gp (i:=2) rfl aD ?_
 (try simp only[dK,dL,dM,Act.put,dN,dO,dP])
 refine gp (i:=3) rfl aD ?_
 (try simp only[dK,dL,dM,Act.put,dN,dO,dP])
 refine gp (i:=4) rfl aD ?_
 (try simp only[dK,dL,dM,Act.put,dN,dO,dP])
 refine gp (i:=5) rfl aD ?_
 (try simp only[dK,dL,dM,Act.put,dN,dO,dP])
 refine gp (i:=6) rfl aD ?_
 (try simp only[dK,dL,dM,Act.put,dN,dO,dP])
 refine gp (i:=7) rfl aD ?_
 (try simp only[dK,dL,dM,Act.put,dN,dO,dP])
 refine gp (i:=8) rfl aD ?_
 (try simp only[dK,dL,dM,Act.put,dN,dO,dP])
 refine gp (i:=9) rfl aD ?_
 (try simp only[dK,dL,dM,Act.put,dN,dO,dP])
 refine gp (i:=10) rfl aD ?_
 (try simp only[dK,dL,dM,Act.put,dN,dO,dP])
 refine gp (i:=11) rfl aD ?_
 (try simp only[dK,dL,dM,Act.put,dN,dO,dP])
 refine gp (i:=13) rfl aD ?_
 (try simp only[dK,dL,dM,Act.put,dN,dO,dP])
 refine gp (i:=14) rfl aD ?_
 (try simp only[dK,dL,dM,Act.put,dN,dO,dP])
 refine gp (i:=15) rfl aD ?_
 (try simp only[dK,dL,dM,Act.put,dN,dO,dP])
 refine gp (i:=16) rfl aD ?_
 (try simp only[dK,dL,dM,Act.put,dN,dO,dP])
 refine gp (i:=17) rfl aD ?_
 (try simp only[dK,dL,dM,Act.put,dN,dO,dP])
 refine gp (i:=18) rfl aD ?_
 (try simp only[dK,dL,dM,Act.put,dN,dO,dP])
 refine gp (i:=19) rfl aD ?_
 (try simp only[dK,dL,dM,Act.put,dN,dO,dP])
 refine gp (i:=20) rfl aD ?_
 (try simp only[dK,dL,dM,Act.put,dN,dO,dP])
 refine gp (i:=21) rfl aD ?_
 (try simp only[dK,dL,dM,Act.put,dN,dO,dP])
 refine wpAnyH_ready (rs:=[12,22]) (by kernel_rfl) (by simp) ?_;refine AllReadyH.cons (o:=_) rfl (fun K hK=>?_) (AllReadyH.cons (o:=_) rfl (fun K hK=>?_) AllReadyH.nil)
 focus (
  go_simp
  refine hK.out _ _ ?_ (fun aD=>?_)
  . (try dsimp only);exact aD
  clear hK K
  (try simp only[dK,dL,dM,Act.put,dN,dO,dP])
  refine wpAnyH_ready (rs:=[22]) (by kernel_rfl) (by simp) ?_
  refine AllReadyH.cons (o:=_) rfl (fun K hK=>?_) AllReadyH.nil
  go_simp
  refine hK.out _ _ ?_ (fun aD=>?_)
  . (try dsimp only);exact⟨bD aD.1,bD aD.2.1,bD aD.2.2.1,bD aD.2.2.2.1,bD aD.2.2.2.2.1,bD aD.2.2.2.2.2.1,bD aD.2.2.2.2.2.2.1,bD aD.2.2.2.2.2.2.2.1,bD aD.2.2.2.2.2.2.2.2.1,bD aD.2.2.2.2.2.2.2.2.2⟩
  clear hK K
  (try simp only[dK,dL,dM,Act.put,dN,dO,dP])
 )
 rotate_left
 focus (
  go_simp
  refine hK.out _ _ ?_ (fun aD=>?_)
  . (try dsimp only);exact⟨bD aD.1,bD aD.2.1,bD aD.2.2.1,bD aD.2.2.2.1,bD aD.2.2.2.2.1,bD aD.2.2.2.2.2.1,bD aD.2.2.2.2.2.2.1,bD aD.2.2.2.2.2.2.2.1,bD aD.2.2.2.2.2.2.2.2.1,bD aD.2.2.2.2.2.2.2.2.2⟩
  clear hK K
  (try simp only[dK,dL,dM,Act.put,dN,dO,dP])
  refine wpAnyH_ready (rs:=[12]) (by kernel_rfl) (by simp) ?_
  refine AllReadyH.cons (o:=_) rfl (fun K hK=>?_) AllReadyH.nil
  go_simp
  refine hK.out _ _ ?_ (fun aD=>?_)
  . (try dsimp only);exact aD
  clear hK K
  (try simp only[dK,dL,dM,Act.put,dN,dO,dP])
 )
 rotate_left
 all_goals (
  refine wpAnyH_ready (rs:=[23]) (by kernel_rfl) (by simp) ?_
  refine AllReadyH.cons (o:=_) rfl (fun K hK=>?_) AllReadyH.nil
  rw[aW (by rfl)]
  refine Ow.jH _ (.tmp 154) (.tmp 164) 147 rfl 0 178 ii _ 9 88 Tryz.underlying147 hii hz0 hz1 hz2 rfl (by decide) (.slice oa on oc) on (B.cs k) rfl (by exact OO.out.1) (J vd.heap.size 0) 1 1 (by omega) [I o.kind,I o.F,I o.hi,I o.value,I r.e,I r.value,.slice va vn vc,I 0,I r.aI] rfl rfl (fun j u hu=>Ow.iC vd [I o.kind,I o.F,I o.hi,I o.value,I r.e,I r.value,.slice va vn vc,I 0,I r.aI] _ vd.heap.size (by simp) j u hu) (by intro u hu;simp at hu;rcases hu with rfl|rfl|rfl|rfl|rfl|rfl|rfl|rfl|rfl<;>rfl) (by have:=OO.out.2;unfold maxLen;omega) (by have:=OO.out.2;omega) (zz _) ?_;intro v' w8 q1 q2 q3;obtain⟨r1,r2,r3,B',r4,r5⟩:=HAD.out v' w8 q1 q2 q3;obtain⟨XA,XB,rfl,_⟩:=Ow.bO q1;have T8:=U (zA r4 r5);clear q1 q2 q3 r4 r5
  refine hK.out _ _ ?_ (fun aD=>?_)
  . (try dsimp only);exact⟨r3 _ _ (by exact GL.out.1) (by exact GN.out.2.2.1) S0.1,r3 _ _ (by exact GL.out.1) (by exact GN.out.2.2.1) S0.2.1,r3 _ _ (by exact GL.out.1) (by exact GN.out.2.2.1) S0.2.2.1,r3 _ _ (by exact GL.out.1) (by exact GN.out.2.2.1) S0.2.2.2.1,r3 _ _ (by exact GL.out.1) (by exact GN.out.2.2.1) S0.2.2.2.2.1,r3 _ _ (by exact GL.out.2) (by exact GN.out.2.2.2) S0.2.2.2.2.2.1,r3 _ _ (by exact GL.out.2) (by exact GN.out.2.2.2) S0.2.2.2.2.2.2.1,r3 _ _ (by exact GL.out.2) (by exact GN.out.2.2.2) S0.2.2.2.2.2.2.2.1,r3 _ _ (by exact GL.out.2) (by exact GN.out.2.2.2) S0.2.2.2.2.2.2.2.2.1,r3 _ _ (by exact GL.out.2) (by exact GN.out.2.2.2) S0.2.2.2.2.2.2.2.2.2⟩
  clear hK K
  (try simp only[dK,dL,dM,Act.put,dN,dO,dP])
  refine gp (i:=24) rfl aD ?_
  (try simp only[dK,dL,dM,Act.put,dN,dO,dP])
  refine gp (i:=25) rfl aD ?_
  (try simp only[dK,dL,dM,Act.put,dN,dO,dP])
  refine wpAnyH_ready (rs:=[26]) (by kernel_rfl) (by simp) ?_
  refine AllReadyH.cons (o:=_) rfl (fun K hK=>?_) AllReadyH.nil
  go_simp
  refine hK.out _ _ ?_ (fun aD=>?_)
  . (try dsimp only);exact⟨bV (by exact GN.out.1) aD.1,bV (by exact GN.out.1) aD.2.1,bV (by exact GN.out.1) aD.2.2.1,bV (by exact GN.out.1) aD.2.2.2.1,bV (by exact GN.out.1) aD.2.2.2.2.1,bV (by exact GN.out.2.1) aD.2.2.2.2.2.1,bV (by exact GN.out.2.1) aD.2.2.2.2.2.2.1,bV (by exact GN.out.2.1) aD.2.2.2.2.2.2.2.1,bV (by exact GN.out.2.1) aD.2.2.2.2.2.2.2.2.1,bV (by exact GN.out.2.1) aD.2.2.2.2.2.2.2.2.2⟩
  clear hK K
  (try simp only[dK,dL,dM,Act.put,dN,dO,dP])
  refine wpAnyH_done (by kernel_rfl) ?_ _
 )
 all_goals (
  generalize w8.setCell _ _=w9 at*
  have k3:=T8.out.2.obj iG
  have z30:=au k3 0 rfl
  have z31:=au k3 1 rfl
  clear k3 S0 T7 OO HAD GN GL y5 YK r1 r2 r3 aD
  go_wp2
  go_ret
  exact⟨rfl,[_,_,_,_],B',T8.out.1,T8.out.2⟩
 )
theorem rG {B:dW} {V:Nat} {w0 w:World} {ks:List Kept} {W:Wd} (h:WK B V w0 ks W w) {s:Nat} (hs:s<8) {aC:St} {r:mo} (hbe:ig W.D s=some (aC,3,r)) (hbz:(W.D.status s).busy=true) (hl1:aC.aA<=W.D.aA+1) (hl2:W.D.aA<=aC.aA) (hl3:W.D.aA<1000000000000000) (hov:r.over=3) {k:Nat} (hid:W.ids.getD s 0=k+1) {p:Dl} (hp:W.bq[k]? =some p) (hdl:W.bq.length<100000) (hnz:aC.status s={}):
 zk 57 #[R B.bw 0,I s] w fun e E=>e=.returned (.bool true)∧∃ ks' B',B'.bw=B.bw∧WK B' V w0 (ks'++ks) {W with D:=aC,bq:=W.bq.set k {p with state:=3,ay:=(W.D.status s).ay},ids:=W.ids.set s 0} E:=by
 obtain⟨lv,wt,a1,a2,a3,a4,en,a6,hst,hen⟩:∃ lv wt a1 a2 a3 a4,∃ en:Nat,∃ a6,dF (W.D.status s)=#[.bool lv,.bool true,.bool wt,I a1,I a2,I a3,zu a4,zu en,I a6]∧en=(W.D.status s).ay:=by
  refine⟨(W.D.status s).live,(W.D.status s).waits,((W.D.status s).id:Int),((W.D.status s).ax:Int),((W.D.status s).state:Int),((W.D.status s).aJ:Int),(W.D.status s).ay,((W.D.status s).ops:Int),?_,rfl⟩;unfold dF;rw[hbz]
 obtain⟨lk,hlk⟩:∃ lk,lk=W.D.aA:=⟨_,rfl⟩
 obtain⟨ni,og⟩:∃ ni,ni=aC.aA:=⟨_,rfl⟩
 rw[<-hlk] at hl1 hl2 hl3;rw[<-og] at hl1 hl2;have sZ:dF (aC.status s)=#[.bool false,.bool false,.bool false,I 0,I 0,I 0,zu 0,zu 0,I 0]:=by rw[hnz];rfl
 rw[<-hen];clear hnz hbz hen;have hl:=h.dl;have hln:=h.KR;obtain⟨⟨pd,pv⟩,Y,TG⟩:∃ q,B.ds[k]? =some q∧q.1=p:=by
  rw[<-hl,List.getElem?_map] at hp
  cases hq:B.ds[k]? with
  |none=>rw[hq] at hp;cases hp
  |some q=>rw[hq] at hp;exact⟨q,rfl,zj hp⟩
 obtain rfl:pd=p:=TG;obtain⟨gd,cap,hvd,_,_,hgm,_⟩:=h.Bl Y;have hkl:k<W.bq.length:=(List.getElem?_eq_some_iff.1 hp).1;obtain⟨n,hn⟩:∃ n,n=W.bq.length:=⟨_,rfl⟩
 have Bn:=hvd;rw[hln,<-hn] at hvd;have zp:Hid (∀ B1 ks W1 H,B1.bw=B.bw->B1.vd=B.vd->WK B1 V w0 ks W1 H->H.cell? (J B.bw 1)=some (.slice (some (J gd 0)) n cap)):=fun B1 ks W1 H e1 e2 q=>by
  have y1:=(q.fZ 1 rfl).1;rw[e1,e2,hvd] at y1;exact y1
 have E2:Hid (∀ B1 ks W1 H,B1.bw=B.bw->W1.ids=W.ids->WK B1 V w0 ks W1 H->zT H B.bw (2+s) ((k:Int)+1)∧H.frozen? (J B.bw (2+s))=false):=fun B1 ks W1 H e1 e2 q=>by
  have y2:=q.fZ (2+s) (lK (W:=W1) q.i8 hs);rw[e1,e2,hid] at y2;exact y2
 have F1:Hid (∀ ks H,WK B V w0 ks {W with D:=aC} H->H.cell? ⟨gd,k*6+2,none⟩=some (i64 pd.state)∧H.frozen? ⟨gd,k*6+2,none⟩=false∧WK {B with ds:=B.ds.set k ({pd with state:=3},pv)} V w0 ks {W with D:=aC,bq:=W.bq.set k {pd with state:=3}} (H.setCell ⟨gd,k*6+2,none⟩ (I 3))):=fun ks H q=>by
  obtain⟨UO,cap',hv',_,_,_,hf⟩:=q.Bl Y;rw[Bn] at hv';simp only[Value.slice.injEq,Option.some.injEq,Addr.mk.injEq,and_true,true_and] at hv';obtain⟨rfl,rfl⟩:=hv';obtain⟨f1,f2⟩:=hf 2 (i64 pd.state) (by omega) rfl;exact⟨f1,f2,q.vM Y (j:=2) (by omega) (I 3) {pd with state:=3} rfl rfl Bn⟩
 have F2:Hid (∀ ks H,WK {B with ds:=B.ds.set k ({pd with state:=3},pv)} V w0 ks {W with D:=aC,bq:=W.bq.set k {pd with state:=3}} H->H.cell? ⟨gd,k*6+4,none⟩=some (u64 pd.ay)∧H.frozen? ⟨gd,k*6+4,none⟩=false∧WK {B with ds:=B.ds.set k ({pd with state:=3,ay:=en},pv)} V w0 ks {W with D:=aC,bq:=W.bq.set k {pd with state:=3,ay:=en}} (H.setCell ⟨gd,k*6+4,none⟩ (zu en))):=fun ks H q=>by
  have hk2:({B with ds:=B.ds.set k ({pd with state:=3},pv)}:dW).ds[k]? =some ({pd with state:=3},pv):=by
   show (B.ds.set k _)[k]? =_;rw[List.getElem?_set_self (by rw[hln];exact hkl)]
  have Ld:({B with ds:=B.ds.set k ({pd with state:=3},pv)}:dW).vd=.slice (some (J gd 0)) (B.ds.set k ({pd with state:=3},pv)).length cap:=by rw[nD];exact Bn
  obtain⟨UO,cap',hv',_,_,_,hf⟩:=q.Bl hk2;rw[Ld] at hv';simp only[Value.slice.injEq,Option.some.injEq,Addr.mk.injEq,and_true,true_and] at hv';obtain⟨rfl,rfl⟩:=hv';obtain⟨f1,f2⟩:=hf 4 (u64 pd.ay) (by omega) rfl;have h9:=q.vM hk2 (j:=4) (by omega) (zu en) {pd with state:=3,ay:=en} rfl rfl Ld;simp only[List.set_set] at h9;exact⟨f1,f2,h9⟩
 have F3:Hid (∀ B1 ks W1 H,B1.bw=B.bw->WK B1 V w0 ks W1 H->WK B1 V w0 ks {W1 with ids:=W1.ids.set s 0} (H.setCell (J B.bw (2+s)) (I 0))):=fun B1 ks W1 H e1 q=>by
  have:=q.KU hs 0;rw[e1] at this;exact this
 have PT:Hid (∀ ks H g g' ob TM,WK B V w0 ks {W with D:=aC} H->Kept.obj g ob∈ks->Kept.obj g' TM∈ks->gd≠B.bw∧gd≠g∧gd≠g'):=fun ks H g g' ob TM q hm hm'=>by
  have hbw:B.M B.bw=some .bT:=by obtain⟨A,rfl,l,r',g0,t⟩:=q.ex;exact (r'.mem.all .bT).1
  have hno:=q.um hm;have hno':=q.um hm';refine⟨fun e=>?_,fun e=>?_,fun e=>?_⟩
  . rw[e,hbw] at hgm;cases hgm
  . rw[e,hno] at hgm;cases hgm
  . rw[e,hno'] at hgm;cases hgm
 have m2:((k:Int)<0)=False:=by simp
 have m3:decide ((k:Int)<0)=false:=by simp
 have m4:((n:Int)<=(k:Int))=False:=by simp;omega
 have m5:decide ((n:Int)<=(k:Int))=false:=by simp;omega
 have m6:(n<=k)=False:=by simp;omega
 have m7:(k:Int)<(n:Int):=by omega
 have m8:(0:Int)<=(k:Int):=by omega
 have m9:k<n:=by omega
 have kb:k<100000:=by omega
 have m1:IntKind.i64.wrap (k:Int)=(k:Int):=by rw[je];omega
 clear hid hp hdl hl hln Y hvd Bn hgm hkl hn;have N1:Hid (∀ ks H,WK B V w0 ks W H->zk 10 #[R V 0,I s] H fun e E=>e=.returned (.agg #[.bool lv,.bool true,.bool wt,I a1,I a2,I a3,zu a4,zu en,I a6])∧WK B V w0 ks W E):=fun ks H q=>by
  have hh:=fF q s hs;rw[hst] at hh;exact hh
 have N2:Hid (∀ ks H,WK B V w0 ks W H->zk 56 #[R V 0] H fun e E=>e=.returned (I lk)∧H=E):=fun ks H q=>by
  have hh:=iR q;rw[<-hlk] at hh;exact hh
 have N3:Hid (∀ ks H,WK B V w0 ks W H->zk 34 #[R V 0,I s] H fun e E=>∃ va vn vc,e=.returned (.tuple #[.agg #[I 3,I r.e,I r.value,.slice va vn vc,I 3,I r.aI],I 0])∧WK B V w0 (.row 2 (.slice va vn vc) (bQ r.aL)::ks) {W with D:=aC} E):=fun ks H q=>by
  refine (sV q hs hbe).mono ?_;rintro e E ⟨va,vn,vc,rfl,yX,q⟩;rw[hov];exact⟨va,vn,vc,rfl,q⟩
 have N4:Hid (∀ ks H,WK B V w0 ks {W with D:=aC} H->zk 56 #[R V 0] H fun e E=>e=.returned (I ni)∧H=E):=fun ks H q=>by
  have hh:=iR q;rw[<-og] at hh;exact hh
 have N5:Hid (∀ ks H,WK B V w0 ks {W with D:=aC} H->zk 10 #[R V 0,I s] H fun e E=>e=.returned (.agg #[.bool false,.bool false,.bool false,I 0,I 0,I 0,zu 0,zu 0,I 0])∧WK B V w0 ks {W with D:=aC} E):=fun ks H q=>by
  have hh:=fF q s hs;rw[sZ] at hh;exact hh
 have C:Hid (∀ bF ks H,WK B V w0 ks {W with D:=bF} H->H.cell? (J B.bw 0)=zs V 0):=fun bF ks H q=>(q.fZ 0 rfl).1
 have O1:Hid (∀ ks W1 H g,WK B V w0 (.obj g (.cells #[.bool lv,.bool true,.bool wt,I a1,I a2,I a3,zu a4,zu en,I a6] 42)::ks) W1 H->zB H g 1 true∧zV H g 7 en):=fun ks W1 H g q=>by
  have Z:=q.obj (iG);exact⟨au Z 1 rfl,au Z 7 rfl⟩
 have b0:((s:Int)<0)=False:=by simp
 have b1:((7:Int)<(s:Int))=False:=by simp;omega
 have b2:(0:Int)<=(s:Int):=by omega
 have b3:(s:Int)<8:=by omega
 have b4:decide ((s:Int)<0)=false:=by simp
 have b5:decide ((7:Int)<(s:Int))=false:=by simp;omega
 have b6:(7<s)=False:=by simp;omega
 have n1:IntKind.i64.wrap ((lk:Int)+1)=(lk:Int)+1:=by rw[je];omega
 have c1:((lk:Int)+1<(ni:Int))=False:=by simp;omega
 have c2:decide ((lk:Int)+1<(ni:Int))=false:=by simp;omega
 have c3:((ni:Int)<(lk:Int))=False:=by simp;omega
 have c4:decide ((ni:Int)<(lk:Int))=false:=by simp;omega
 have c5:(ni<lk)=False:=by simp;omega
 have m0:wrap64 (k:Int)=(k:Int):=by unfold wrap64;omega
 clear kb;have T0:=U h;have x0:=C.out W.D _ _ T0.out;clear hst sZ hlk og hl1 hl2 hl3 hbe h hs hov;go_enter Tryz.func57,Tryz.ntmps57;go_upto_region 11 with (first|(go_at_call 10;refine (N1.out _ _ T0.out).mono ?_;clear T0;rintro e H ⟨rfl,q⟩;have x1:=C.out W.D _ _ (q.alloc (.cells #[.bool lv,.bool true,.bool wt,I a1,I a2,I a3,zu a4,zu en,I a6] 42));have T1:=U (q.alloc (.cells #[.bool lv,.bool true,.bool wt,I a1,I a2,I a3,zu a4,zu en,I a6] 42));clear q)|(go_at_call 56;refine (N2.out _ _ T1.out).mono ?_;rintro e E ⟨rfl,rfl⟩;have T2:=T1;clear T1)|(go_at_call 34;refine (N3.out _ _ T2.out).mono ?_;clear T2;rintro e w3 ⟨va,vn,vc,rfl,q⟩;have q2:=q.alloc (.cells #[I 3,I r.e,I r.value,.slice va vn vc,I 3,I r.aI] 81);have x3:=C.out aC _ _ q2;obtain⟨y1,y2⟩:=O1.out _ _ _ _ q2.tail.tail;have T3:=U q2;clear q q2)|(go_at_call 56;refine (N4.out _ _ T3.out).mono ?_;rintro e E ⟨rfl,rfl⟩)|(go_at_call 10;refine (N5.out _ _ T3.out).mono ?_;clear T3;rintro e w6 ⟨rfl,q⟩;have q2:=q.alloc (.cells #[.bool false,.bool false,.bool false,I 0,I 0,I 0,zu 0,zu 0,I 0] 42);have T6:=U q2;clear q q2))
 generalize hv6:w6.alloc _=v6 at*;generalize H.heap.size=g1 at*;generalize w3.heap.size=g2 at*;generalize w6.heap.size=g3 at*;have x6:=C.out aC _ _ T6.out;have k3:=T6.out.obj iG;have k2:=T6.out.tail.obj iG;have k1:=T6.out.tail.tail.tail.obj iG;have z30:=au k3 0 rfl;have z31:=au k3 1 rfl;have z32:=au k3 2 rfl;have z20:=au k2 0 rfl;have z21:=au k2 1 rfl;have z22:=au k2 2 rfl;have z23:=au k2 3 rfl;have z24:=au k2 4 rfl;have z25:=au k2 5 rfl;have z17:=au k1 7 rfl;clear k1 k2 k3 hv6 N1 N2 N3 N4 N5 C O1 b0 b1 b4 b5 b6 c1 c2 c3 c4 c5 n1;have y1:=zp.out _ _ _ _ (by rfl) (by rfl) T6.out;obtain⟨y2,TN⟩:=E2.out _ _ _ _ (by rfl) (by rfl) T6.out;go_upto_region 22 with fail
 have T7:=U T6.out.drew;have GN:=U (PT.out _ _ g2 g1 _ _ T7.out (nV _ iG) (nV _ (nV _ (nV _ iG))));obtain⟨f1,f2,f3⟩:=F1.out _ _ T7.out;have T8:=U f3;have S0:v6.drew.cell? (J B.bw 1)=some (.slice (some (J gd 0)) n cap)∧zT v6.drew g2 4 3:=⟨y1,z24⟩
 clear f3 PT F1 T6 z20 z21 z22 z24 z25 z30 z31 z32 x6 m1 m0 y2 TN y1 z23 z17;refine wp_region_held_drew (S:=fun E=>E.cell? (J B.bw 1)=some (.slice (some (J gd 0)) n cap)∧zT E g2 4 3) (by kernel_rfl) ?_ (fun aD=>?_)
 . (try dsimp only);exact S0
 generalize v6.drew=vd at*;refine gp (i:=0) rfl aD ?_
 (try simp only[dK,dL,dM,Act.put,dN,dO,dP])
 refine gp (i:=1) rfl aD ?_
 (try simp only[dK,dL,dM,Act.put,dN,dO,dP])
 refine gp (i:=2) rfl aD ?_
 (try simp only[dK,dL,dM,Act.put,dN,dO,dP])
 refine gp (i:=3) rfl aD ?_
 (try simp only[dK,dL,dM,Act.put,dN,dO,dP])
 refine gp (i:=4) rfl aD ?_
 (try simp only[dK,dL,dM,Act.put,dN,dO,dP])
 refine gp (i:=5) rfl aD ?_
 (try simp only[dK,dL,dM,Act.put,dN,dO,dP])
 refine gp (i:=6) rfl aD ?_
 (try simp only[dK,dL,dM,Act.put,dN,dO,dP])
 refine gp (i:=7) rfl aD ?_
 (try simp only[dK,dL,dM,Act.put,dN,dO,dP])
 refine gp (i:=8) rfl aD ?_
 (try simp only[dK,dL,dM,Act.put,dN,dO,dP])
 refine gp (i:=9) rfl aD ?_
 (try simp only[dK,dL,dM,Act.put,dN,dO,dP])
 refine wpAnyH_ready (rs:=[10]) (by kernel_rfl) (by simp) ?_;refine AllReadyH.cons (o:=_) rfl (fun K hK=>?_) AllReadyH.nil;go_simp;refine hK.out _ _ ?_ (fun aD=>?_)
 . (try dsimp only);exact⟨bV (by exact GN.out.1) aD.1,bV (by exact GN.out.2.1) aD.2⟩
 clear hK K
 (try simp only[dK,dL,dM,Act.put,dN,dO,dP])
 refine wpAnyH_done (by kernel_rfl) ?_ _;generalize vd.setCell _ _=v8 at*;have y1:=zp.out _ _ _ _ (by rfl) (by rfl) T8.out;have z17:=au (T8.out.tail.tail.tail.obj iG) 7 rfl;clear aD S0 f1 f2 T7;go_upto_region 23 with fail
 obtain⟨f1,f2,f3⟩:=F2.out _ _ T8.out.drew;have T9:=U f3;have S0:v8.drew.cell? (J B.bw 1)=some (.slice (some (J gd 0)) n cap)∧zV v8.drew g1 7 en:=⟨y1,z17⟩
 clear f3 F2 y1 z17;refine wp_region_held_drew (S:=fun E=>E.cell? (J B.bw 1)=some (.slice (some (J gd 0)) n cap)∧zV E g1 7 en) (by kernel_rfl) ?_ (fun aD=>?_)
 . (try dsimp only);exact S0
 generalize v8.drew=ve at*;refine gp (i:=0) rfl aD ?_
 (try simp only[dK,dL,dM,Act.put,dN,dO,dP])
 refine gp (i:=1) rfl aD ?_
 (try simp only[dK,dL,dM,Act.put,dN,dO,dP])
 refine gp (i:=2) rfl aD ?_
 (try simp only[dK,dL,dM,Act.put,dN,dO,dP])
 refine gp (i:=3) rfl aD ?_
 (try simp only[dK,dL,dM,Act.put,dN,dO,dP])
 refine gp (i:=4) rfl aD ?_
 (try simp only[dK,dL,dM,Act.put,dN,dO,dP])
 refine gp (i:=5) rfl aD ?_
 (try simp only[dK,dL,dM,Act.put,dN,dO,dP])
 refine gp (i:=6) rfl aD ?_
 (try simp only[dK,dL,dM,Act.put,dN,dO,dP])
 refine gp (i:=7) rfl aD ?_
 (try simp only[dK,dL,dM,Act.put,dN,dO,dP])
 refine gp (i:=8) rfl aD ?_
 (try simp only[dK,dL,dM,Act.put,dN,dO,dP])
 refine wpAnyH_ready (rs:=[9]) (by kernel_rfl) (by simp) ?_;refine AllReadyH.cons (o:=_) rfl (fun K hK=>?_) AllReadyH.nil;go_simp;refine hK.out _ _ ?_ (fun aD=>?_)
 . (try dsimp only);exact⟨bV (by exact GN.out.1) aD.1,bV (by exact GN.out.2.2) aD.2⟩
 clear hK K
 (try simp only[dK,dL,dM,Act.put,dN,dO,dP])
 refine wpAnyH_done (by kernel_rfl) ?_ _;generalize ve.setCell _ _=v9 at*;obtain⟨y2,TN⟩:=E2.out _ _ _ _ (by rfl) (by rfl) T9.out;have TP:=U (F3.out _ _ _ _ (by rfl) T9.out);have k2:=T9.out.tail.obj iG;have z23:=au k2 4 rfl;have k3:=TP.out.obj iG;have z0:=au k3 0 rfl;have z1:=au k3 1 rfl;have z2:=au k3 2 rfl;have z3:=au k3 3 rfl;have z4:=au k3 4 rfl;have z5:=au k3 5 rfl;have z6:=au k3 6 rfl;have z7:=au k3 7 rfl;have z8:=au k3 8 rfl;clear k2 k3 aD S0 f1 f2 T8 GN zp E2 F3;go_wp2;go_ret;exact⟨rfl,[_,_,_,_],_,by rfl,TP.out⟩
def Bo (W:Wd) (s:Nat):Option Wd:=
 match ig W.D s with
 |some (aC,kd,r)=>
  if (W.D.status s).busy=true∧aC.aA<=W.D.aA+1∧W.D.aA<=aC.aA∧W.D.aA<1000000000000000 then
   if kd=3 then
    match W.ids.getD s 0 with
    |0=>none
    |k+1=>match W.bq[k]? with
     |none=>none
     |some p=>
      if r.over=0∧p.ops.length<100000∧W.bq.length<100000∧(aC.status s).live=true∧(aC.status s).busy=false then some {W with D:=aC,bq:=W.bq.set k {p with ops:=p.ops++[(W.ops.getD s default,r)]}}
      else if r.over=3∧W.bq.length<100000∧aC.status s={} then some {W with D:=aC,bq:=W.bq.set k {p with state:=3,ay:=(W.D.status s).ay},ids:=W.ids.set s 0}
      else none
   else if (kd=1∨kd=2)∧r={}∧(aC.status s).busy=true∧(aC.status s).waits=decide (kd=2) then some {W with D:=aC}
   else none
  else none
 |none=>none
theorem Ja {B:dW} {V:Nat} {w0 w:World} {ks:List Kept} {W W':Wd} (h:WK B V w0 ks W w) {s:Nat} (hs:s<8) (hr:Bo W s=some W'):
 zk 57 #[R B.bw 0,I s] w fun e E=>e=.returned (.bool true)∧∃ ks' B',B'.bw=B.bw∧WK B' V w0 (ks'++ks) W' E:=by
 unfold Bo at hr
 split at hr
 . rename_i aC kd r hst
   split at hr
   . rename_i hh
     obtain⟨h1,h2,h3,h4⟩:=hh
     split at hr
     . rename_i hkd
       subst hkd
       split at hr
       . cases hr
       . rename_i k hid
         split at hr
         . cases hr
         . rename_i p hp
           split at hr
           . rename_i hh
             obtain⟨e1,e2,e3,e4,e5⟩:=hh;obtain rfl:=zj hr;exact wU h hs hst h1 h2 h3 h4 e1 hid hp e2 e3 e4 e5
           . split at hr
             . rename_i hh
               obtain⟨e1,e2,e3⟩:=hh;obtain rfl:=zj hr;exact rG h hs hst h1 h2 h3 h4 e1 hid hp e2 e3
             . cases hr
     . split at hr
       . rename_i hh
         obtain⟨e1,e2,e3,e4⟩:=hh;obtain rfl:=zj hr;subst e2;exact (uk h hs hst e1 h1 h2 h3 h4 e3 e4).mono fun e E ⟨q1,ks',q2⟩=>⟨q1,ks',B,rfl,q2⟩
       . cases hr
   . cases hr
 . cases hr
def uY:Nat->Nat->Wd->Option Wd
 |0,_,_=>none
 |f+1,i,W=>
  if W.D.live.length=0 then some W
  else if (W.D.status (i % 8)).live=true then
   if (W.D.status (i % 8)).busy=true then
    match Bo W (i % 8) with
    |some W'=>uY f (i+1) W'
    |none=>none
   else
    match kX W (i % 8) ⟨6,0,0,0⟩ with
    |some W'=>uY f (i+1) W'
    |none=>none
  else uY f (i+1) W
theorem Le {B:dW} {V:Nat} {w0 w:World} {ks:List Kept} {W W':Wd} (h:WK B V w0 ks W w) (ae:Nat) (hF:ae<=400000) (hr:uY ae 0 W=some W'):
 zk 18 #[R B.bw 0] w fun e E=>e=.returned (.bool true)∧∃ ks' B',B'.bw=B.bw∧WK B' V w0 (ks'++ks) W' E:=by
 have H0:=U (zA h (zA hr hF));clear h hr hF;go_enter Tryz.func18,Tryz.ntmps18;go_wp2
 go_loopw [3] (fun i wr=>∃ (k f:Nat) (ks':List Kept) (B':dW) (Wk:Wd),i=I k∧k+f<=400000∧B'.bw=B.bw∧WK B' V w0 (ks'++ks) Wk wr∧uY f k Wk=some W') (fun i _=>400000 - (intOf i).toNat)
 case atStart=>exact⟨0,ae,[],B,W,rfl,by have:=H0.out.2.2;omega,rfl,H0.out.1,H0.out.2.1⟩
 case round=>
  obtain⟨k,f,ks',B',Wk,rfl,Lf,hbw,hw,aU⟩:=hrel
  cases f with
  |zero=>cases aU
  |succ f=>
  unfold uY at aU;have b0:(k:Int)<400000:=by omega
  have b1:((k:Int)<400000)=True:=by simp;omega
  have n1:IntKind.i64.wrap ((k:Int)+1)=(k:Int)+1:=by rw[je];omega
  obtain⟨ll,hll⟩:∃ ll,ll=Wk.D.live.length:=⟨_,rfl⟩
  have N1:Hid (zk 13 #[R V 0] wr fun e E=>∃ av cap,e=.returned (.slice av ll cap)∧WK B' V w0 (ks'++ks) Wk E):=by rw[hll];exact Hm hw
  have x0:wr.cell? (J B.bw 0)=zs V 0:=by rw[<-hbw];exact (hw.fZ 0 rfl).1
  have C:Hid (∀ H,WK B' V w0 (ks'++ks) Wk H->H.cell? (J B.bw 0)=zs V 0):=fun H q=>by rw[<-hbw];exact (q.fZ 0 rfl).1
  by_cases hl0:Wk.D.live.length=0
  . rw[aW hl0] at aU
    obtain rfl:=zj aU;obtain rfl:ll=0:=hll.trans hl0;have HB:=U hbw;clear hl0 hll hw hbw Lf aU;go_wp2_with (go_at_call 13;refine N1.out.mono ?_;rintro e H ⟨av,cap,rfl,q⟩;have T1:=U q;clear q);go_ret;exact⟨rfl,ks',B',HB.out,T1.out⟩
  . rw[bu hl0] at aU
    have l1:((ll:Int)==0)=false:=by simp;omega
    have l2:((ll:Int)=0)=False:=by simp;omega
    have l3:(ll=0)=False:=by simp;omega
    obtain⟨s,hs⟩:∃ s,s=k % 8:=⟨_,rfl⟩
    have EC:s<8:=by omega
    have t1:(k:Int).tmod 8=(s:Int):=by rw[hs];exact (Int.ofNat_tmod k 8).symm
    rw[<-hs] at aU;obtain⟨lv,bz,wt,a1,a2,a3,a4,a5,a6,hst,hlv,hbz⟩:∃ lv bz wt a1 a2 a3 a4 a5 a6,dF (Wk.D.status s)=#[.bool lv,.bool bz,.bool wt,I a1,I a2,I a3,zu a4,zu a5,I a6]∧lv=(Wk.D.status s).live∧bz=(Wk.D.status s).busy:=⟨_,_,_,_,_,_,_,_,_,rfl,rfl,rfl⟩
    have N2:Hid (∀ H,WK B' V w0 (ks'++ks) Wk H->zk 10 #[R V 0,I s] H fun e E=>e=.returned (.agg #[.bool lv,.bool bz,.bool wt,I a1,I a2,I a3,zu a4,zu a5,I a6])∧WK B' V w0 (ks'++ks) Wk E):=fun H q=>by
     have hh:=fF q s EC;rw[hst] at hh;exact hh
    have O1:Hid (∀ H g,WK B' V w0 (.obj g (.cells #[.bool lv,.bool bz,.bool wt,I a1,I a2,I a3,zu a4,zu a5,I a6] 42)::(ks'++ks)) Wk H->zB H g 0 lv∧zB H g 1 bz):=fun H g q=>by
     have Z:=q.obj (iG);exact⟨au Z 0 rfl,au Z 1 rfl⟩
    rw[<-hlv,<-hbz] at aU;have HB:=U (zA hbw Lf);clear hl0 hll hst hlv hbz hs
    cases lv with
    |false=>
     rw[bu (by decide)] at aU;have HR:=U aU;clear aU hw hbw Lf EC;go_wp2_with (first|(go_at_call 13;refine N1.out.mono ?_;rintro e H ⟨av,cap,rfl,q⟩;have x1:=C.out _ q;have T1:=U q;clear q)|(go_at_call 10;refine (N2.out _ T1.out).mono ?_;rintro e w2 ⟨rfl,q⟩;have q2:=q.alloc (.cells #[.bool false,.bool bz,.bool wt,I a1,I a2,I a3,zu a4,zu a5,I a6] 42);obtain⟨y0,y1⟩:=O1.out _ _ q2;have T2:=U q2;clear q q2 T1))
     go_roundw
     case rel=>exact⟨k+1,f,_::ks',B',Wk,rfl,by have:=HB.out.2;omega,HB.out.1,T2.out,HR.out⟩
     case measure=>simp[intOf];omega
    |true=>
     rw[aW rfl] at aU
     cases bz with
     |false=>
      rw[bu (by decide)] at aU
      split at aU
      . rename_i W2 hi
        have N3:Hid (∀ H FI,WK B' V w0 FI Wk H->zk 55 #[R B.bw 0,I s,.agg #[I 6,I 0,I 0,I 0]] H fun e E=>e=.returned (.bool true)∧WK B' V w0 FI W2 E):=fun H FI q=>by
         rw[<-hbw];exact pz q EC ⟨6,0,0,0⟩ hi
        have HR:=U aU;clear aU hw hbw Lf EC hi;go_wp2_with (first|(go_at_call 13;refine N1.out.mono ?_;rintro e H ⟨av,cap,rfl,q⟩;have x1:=C.out _ q;have T1:=U q;clear q)|(go_at_call 10;refine (N2.out _ T1.out).mono ?_;rintro e w2 ⟨rfl,q⟩;have q2:=q.alloc (.cells #[.bool true,.bool false,.bool wt,I a1,I a2,I a3,zu a4,zu a5,I a6] 42);obtain⟨y0,y1⟩:=O1.out _ _ q2;have T2:=U q2;clear q q2 T1)|(go_at_call 55;refine (N3.out _ _ T2.out).mono ?_;rintro e w3 ⟨rfl,q⟩;have T3:=U q;clear q T2))
        go_roundw
        case rel=>exact⟨k+1,f,_::ks',B',W2,rfl,by have:=HB.out.2;omega,HB.out.1,T3.out,HR.out⟩
        case measure=>simp[intOf];omega
      . cases aU
     |true=>
      rw[aW rfl] at aU
      split at aU
      . rename_i W2 hi
        have N4:Hid (∀ H FI,WK B' V w0 FI Wk H->zk 57 #[R B.bw 0,I s] H fun e E=>e=.returned (.bool true)∧∃ Q5 B2,B2.bw=B.bw∧WK B2 V w0 (Q5++FI) W2 E):=fun H FI q=>by
         rw[<-hbw];exact Ja q EC hi
        have HR:=U aU;clear aU hw hbw Lf EC hi;go_wp2_with (first|(go_at_call 13;refine N1.out.mono ?_;rintro e H ⟨av,cap,rfl,q⟩;have x1:=C.out _ q;have T1:=U q;clear q)|(go_at_call 10;refine (N2.out _ T1.out).mono ?_;rintro e w2 ⟨rfl,q⟩;have q2:=q.alloc (.cells #[.bool true,.bool true,.bool wt,I a1,I a2,I a3,zu a4,zu a5,I a6] 42);obtain⟨y0,y1⟩:=O1.out _ _ q2;have T2:=U q2;clear q q2 T1)|(go_at_call 57;refine (N4.out _ _ T2.out).mono ?_;rintro e w3 ⟨rfl,Q5,B2,q0,q⟩;have T3:=U (zA q0 q);clear q0 q T2))
        go_roundw
        case rel=>exact⟨k+1,f,Q5++(_::ks'),B2,W2,rfl,by have:=HB.out.2;omega,T3.out.1,by have:=T3.out.2;rw[List.append_assoc];exact this,HR.out⟩
        case measure=>simp[intOf];omega
      . cases aU
def PU:Bool:=thn (oI (DI 8 100) 0 3) fun W1=>thn (kX W1 0 ⟨2,5,0,7⟩) fun W2=>thn (uY 1000 0 W2) fun W3=>decide (W3.bq.length=1)&&(thn (W3.bq[0]?) fun p=>decide (p.state=3)&&(sS W3.D&&decide (W3.D.aL=[(5,7)])))
theorem FJ:PU=true:=by decide +kernel
theorem Lg:∃ W1 W2 W3 p,oI (DI 8 100) 0 3=some W1∧kX W1 0 ⟨2,5,0,7⟩=some W2∧uY 1000 0 W2=some W3∧W3.bq.length=1∧W3.bq[0]? =some p∧p.state=3∧sS W3.D=true∧W3.D.aL=[(5,7)]:=by
 have h:=FJ;unfold PU at h;obtain⟨W1,h1,h⟩:=Bi h;obtain⟨W2,h2,h⟩:=Bi h;obtain⟨W3,h3,h⟩:=Bi h;obtain⟨h4,h⟩:=pg h;obtain⟨p,h5,h⟩:=Bi h;obtain⟨h6,h⟩:=pg h;obtain⟨h7,h8⟩:=pg h;exact⟨W1,W2,W3,p,h1,h2,h3,of_decide_eq_true h4,h5,of_decide_eq_true h6,h7,of_decide_eq_true h8⟩
theorem OP (w:World):zk 20 #[] w fun e E=>e=.returned (.bool true)∧Below w.heap.size w E:=by
 obtain⟨W1,W2,W3,p,h1,h2,h3,h4,h5,h6,h7,h8⟩:=Lg;have HN:Hid (zk 7 #[I 8,zu 100] w fun e E=>∃ B V,e=.returned (R B.bw 0)∧WK B V w [] (DI 8 100) E):=DJ 8 100 (by omega) (by omega) (by omega) (by omega) w;have YL:Hid (∀ B V H,WK B V w [] (DI 8 100) H->zk 54 #[R B.bw 0,I 0,I 3] H fun e E=>e=.returned (.bool true)∧∃ B',B'.bw=B.bw∧WK B' V w [] W1 E):=fun B V H q=>wS q (s:=0) (ax:=3) (by omega) h1
 have YM:Hid (∀ B V H b,B.bw=b->WK B V w [] W1 H->zk 55 #[R b 0,I 0,.agg #[I 2,I 5,I 0,I 7]] H fun e E=>e=.returned (.bool true)∧WK B V w [] W2 E):=fun B V H b e q=>by subst e;exact pz q (s:=0) (by omega) ⟨2,5,0,7⟩ h2
 have YN:Hid (∀ B V H b,B.bw=b->WK B V w [] W2 H->zk 18 #[R b 0] H fun e E=>e=.returned (.bool true)∧∃ B' gd cap,B'.bw=b∧WK B' V w [] W3 E∧zS E b 0 V 0∧E.cell? (J b 1)=some (.slice (some (J gd 0)) 1 cap)∧zT E gd 2 3):=fun B V H b e q=>by
  subst e;refine (Le q 1000 (by omega) h3).mono ?_;rintro e E ⟨rfl,ks',B',Z,q⟩;have y1:=(q.fZ 1 rfl).1;have Y:∃ pv,B'.ds[0]? =some (p,pv):=by
   have hl:=q.dl;rw[<-hl,List.getElem?_map] at h5
   cases hq:B'.ds[0]? with
   |none=>rw[hq] at h5;cases h5
   |some x=>
    rw[hq] at h5;obtain rfl:=zj h5;exact⟨x.2,rfl⟩
  obtain⟨pv,Y⟩:=Y;obtain⟨gd,cap,hv,_,_,_,hf⟩:=q.Bl Y;rw[hv,q.KR,h4,Z] at y1;have y2:=(hf 2 (i64 p.state) (by omega) rfl).1;rw[h6] at y2;have y0:=(q.fZ 0 rfl).1;rw[Z] at y0;exact⟨rfl,B',gd,cap,Z,q.drop,y0,y1,y2⟩
 have YO:Hid (∀ B V H,WK B V w [] W3 H->zk 59 #[R V 0] H fun e E=>∃ av cap,e=.returned (.slice av 1 cap)∧Ow.Row E 0 2 (.slice av 1 cap) (bQ [(5,7)])∧WK B V w [] W3 E):=fun B V H q=>by
  have hh:=KY q h7;rw[h8] at hh;exact hh
 have Lh:Hid (∀ av cap H,Ow.Row H 0 2 (.slice av 1 cap) (bQ [(5,7)])->zk 52 #[.slice av 1 cap,.slice (some (J H.heap.size 0)) 1 1] (H.alloc (.cells #[I 5,I 7] 152)) fun e E=>e=.returned (.bool true)∧Below (H.alloc (.cells #[I 5,I 7] 152)).heap.size (H.alloc (.cells #[I 5,I 7] 152)) E):=fun av cap H q=>by
  refine vX _ _ [(5,7)] 0 0 _ (Row.alloc' q _) ?_;exact FE (xs:=bQ [(5,7)]) 1 2 (heap_alloc_new H _) rfl (by omega)
 clear h1 h2 h3 h4 h5 h6 h7 h8;go_enter Tryz.func20,Tryz.ntmps20;go_wp2_with (first|(go_at_call 7;refine HN.out.mono ?_;rintro e H ⟨B,V,rfl,q⟩;have T1:=U q;clear q)|(go_at_call 54;refine (YL.out _ _ _ T1.out).mono ?_;rintro e w2 ⟨rfl,B1,Z,q⟩;have T2:=U (zA Z q);clear q Z T1)|(go_at_call 55;refine (YM.out _ _ _ _ T2.out.1 T2.out.2).mono ?_;rintro e w3 ⟨rfl,q⟩;have T3:=U (zA T2.out.1 q);clear q T2)|(go_at_call 18;refine (YN.out _ _ _ _ T3.out.1 T3.out.2).mono ?_;rintro e w4 ⟨rfl,B2,gd,cap,_,q,x0,x1,x2⟩;have T4:=U q;clear q T3)|(go_at_call 59;refine (YO.out _ _ _ T4.out).mono ?_;rintro e w5 ⟨av,c5,rfl,q1,q⟩;have T5:=U q;have HR:=U q1;clear q q1 T4)|(go_at_call 52;refine (Lh.out _ _ _ HR.out).mono ?_;rintro e w6 ⟨rfl,q⟩;have T6:=U ((T5.out.alloc _).below q);clear q));go_ret;exact⟨rfl,T6.out.toBelow⟩
theorem FK {A:az} {D:St} {w:World} (hL:Live A D w) (s:Nat) (hs:s<8) (t:bL) (ht:D.ai.getD s none=some t) (o:En.Op) (ho:nX o=true) (he:gU o=false) (hn:D.calls.getD s none=none) (hop:12<=t.ops):
 zk 33 #[R A.V 0,I s,.agg #[I o.kind,I o.F,I o.hi,I o.value]] w fun e E=>e=.returned (I 65)∧Below w.heap.size w E:=by
 obtain⟨r0,g0,f0⟩:=dz hL.rep #[I o.kind,I o.F,I o.hi,I o.value] 27;have gG:=U (fQ s hs);have hok:=U (tV o ho);have hen:=U (AL o);rw[he] at hen;have b1:(s:Int)<8:=by omega
 have b0:(0:Int)<=(s:Int):=by omega
 have HW:Hid (∀ E,Below (w.alloc (.cells #[I o.kind,I o.F,I o.hi,I o.value] 27)).heap.size (w.alloc (.cells #[I o.kind,I o.F,I o.hi,I o.value] 27)) E->Below w.heap.size w E∧(zT E w.heap.size 0 o.kind∧zT E w.heap.size 1 o.F∧zT E w.heap.size 2 o.hi∧zT E w.heap.size 3 o.value)∧zS E A.V (5+s) (A.bt s) 0∧E.cell? (J A.V (13+s))=some (.pointer none)∧zT E (A.bt s) 5 t.ops):=by
  intro E Z;have r:=r0.below Z;have f:=f0.grow (Grow.below (L:=A.L) Z);have h:=r.bT (5+s) (dQ A D hs);have h2:=r.bT (13+s) (ed A D hs);have e:A.tp D s=R (A.bt s) 0:=by unfold az.tp;rw[ht]
  rw[e] at h;rw[hL.idle s hs hn] at h2;exact⟨((Below.refl _ _).alloc (zr _) _).trans (Z.mono (by simp)),⟨f.cell 0 rfl,f.cell 1 rfl,f.cell 2 rfl,f.cell 3 rfl⟩,h,h2,r.fI ht 5 rfl⟩
 obtain⟨hb0,⟨o0,o1,o2,o3⟩,v1,v2,v3⟩:=HW.out _ (Below.refl _ _);have HB0:=U hb0;have d1:decide ((12:Int)<=(t.ops:Int))=true:=by simp;omega
 have d2:((12:Int)<=(t.ops:Int))=True:=by simp;omega
 have d3:(12<=t.ops)=True:=by simp;omega
 clear hL r0 g0 f0 hs ho he hn hop ht hb0;go_enter Tryz.func33,Tryz.ntmps33;go_wp2_with (first|(go_at_call 40;refine (gG.out _).mono ?_;rintro e E ⟨rfl,rfl⟩)|(go_at_call 68;refine (hok.out _).mono ?_;rintro e H ⟨rfl,Z⟩;obtain⟨_,⟨y0,y1,y2,y3⟩,x1,x2,x3⟩:=HW.out H Z;have H1:=U Z;clear Z)|(go_at_call 69;refine (hen.out _).mono ?_;rintro e w2 ⟨rfl,hb2⟩;have HB2:=U (HW.out w2 (H1.out.trans (hb2.mono H1.out.size))).1;clear hb2));go_ret;exact⟨rfl,HB2.out⟩
section
variable {B:dW} {V:Nat} {w0 w E:World} {ks:List Kept} {W:Wd}
theorem WK.OQ {H:World} {v':Value} (h:WK B V w0 ks W w) (n:Nat) (Z:Below w.heap.size w H)
 (ho:E.ownsRow 0 3 1 v' (W.gone.length+1) (W.gone.map i64++[i64 n])) (hg:H.grownBy E B.vg.ownBlock) (h3:v'.ownBlock=B.vg.ownBlock∨∀ g,v'.ownBlock=some g->H.heap.size<=g):
 E.cell? (J B.bw 42)=some B.vg∧E.frozen? (J B.bw 42)=false∧(∀ a v,a.block<w.heap.size->B.vg.ownBlock≠some a.block->w.cell? a=some v->E.cell? a=some v)∧
 ∃ B',B'.bw=B.bw∧WK B' V w0 ks {W with gone:=W.gone++[n]} (E.setCell (J B.bw 42) v'):=by
 have h1:=h.below Z;have hge:∀ b r,B.M b=some r->w0.heap.size<=b:=fun b r=>h1.ge
 obtain⟨A,rfl,l,r,g,t⟩:=h1.ex;have qo:wQ A.L B.vg:=fun b Z=>r.tie b _ ((r.mem.all .free).2 b Z)
 obtain⟨L',hrow,KZ⟩:=rF l qo ho hg h3;have hgr:=r.mem.grown .free (v:=B.vg) (v':=v') (n':=W.gone.length+1) rfl hg ho h3;obtain⟨hm,hgm⟩:=hgr;have hc1:=hm.cell (r:=.bT) (b:=B.bw) (cs:=dJ A.V B W) (T:=38) (aT _ _ (by simp)) 42 (v:=B.vg) (pq r.i8 r.o8);have hc2:=hm.frozen (r:=.bT) (b:=B.bw) (cs:=dJ A.V B W) (T:=38) (aT _ _ (by simp)) 42;have hp:=hm.put .bT (b:=B.bw) (cs:=dJ A.V B W) (T:=38) (aT _ _ (by simp)) 42 v';rw[vE r.i8 r.o8] at hp;have hbw:B.M B.bw=some .bT:=(r.mem.all .bT).1;have hlt:B.bw<H.heap.size:=r.lt hbw;have hlb:L' B.bw=some .tmp:=(hrow.lab _ hlt).trans (r.tie _ _ hbw);have dE:=But.setCell E (J B.bw 42) v';have sW:=dE.soft hlb;refine⟨hc1,hc2,fun a v ha hna hc=>?_,{B with M:=lW B.M v' .free,vg:=v'},rfl,{A with L:=L'},rfl,?_,⟨fun b q hbq=>?_,⟨fun q=>?_,hp.fresh⟩,fun k p Y=>?_,r.dl,r.i8,r.o8⟩,?_,KW.soft (hrow.soft.trans sW) (Bj (r:=.free) hrow hbw (fun g hg=>(r.mem.all .free).2 g hg) hg h3 dE) t⟩
 . rw[World.cell?_of_block (w:=w) ((hg.block a.block (yI ha Z.size) (fun e=>hna e.symm)).trans (Z.block a.block ha))];exact hc
 . exact (l.Bf hrow).but hlb dE
 . replace hbq:lW B.M v' .free b=some q:=hbq
   unfold lW at hbq
   split at hbq
   . rename_i hv
     exact KZ b hv
   . exact (hrow.lab b (r.lt hbq)).trans (r.tie b q hbq)
 . have hq:=hp.all q
   cases q with
   |bT=>exact hq
   |free=>
    rw[aT _ _ (by simp),fE] at hq;show Entry.Holds _ _ _ (.own v' _ 1 (W.gone++[n]).length ((W.gone++[n]).map i64));rw[List.map_append,jb];exact hq
   |aQ=>rw[aT _ _ (by simp),aT _ _ (by simp)] at hq;exact hq
   |reads k=>rw[aT _ _ (by simp),aT _ _ (by simp)] at hq;exact hq
   |_=>trivial
 . exact ((r.cls k p Y).soft hrow.soft).soft sW
 . exact (g.Bf hrow (fun b Z=>hge b _ ((r.mem.all .free).2 b Z))).but (hge _ _ hbw) dE
end
theorem Q6:(Tryz.prog.info? 3).map (fun i=>(i.zero,i.size,i.bytes))=some (some (I 0),1,8):=by kernel_rfl
set_option maxHeartbeats 16000000 in
theorem wV {B:dW} {V:Nat} {w0 w:World} {ks:List Kept} {W:Wd} (h:WK B V w0 ks W w) {s:Nat} (hs:s<8) {aC:St} {r:mo} (hbe:ig W.D s=some (aC,3,r)) (hbz:(W.D.status s).busy=true) (hl1:aC.aA<=W.D.aA+1) (hl2:W.D.aA<=aC.aA) (hl3:W.D.aA<1000000000000000) (hov:r.over=4) (hgl:W.gone.length<100000) {k:Nat} (hid:W.ids.getD s 0=k+1) {p:Dl} (hp:W.bq[k]? =some p) (hdl:W.bq.length<100000) (hnz:aC.status s={}):
 zk 57 #[R B.bw 0,I s] w fun e E=>e=.returned (.bool true)∧∃ ks' B',B'.bw=B.bw∧WK B' V w0 (ks'++ks) {W with D:=aC,bq:=W.bq.set k {p with state:=4,ay:=(W.D.status s).ay},ids:=W.ids.set s 0,gone:=W.gone++[r.aI]} E:=by
 obtain⟨ii,hii,hz0,hz1,hz2⟩:=info_parts Q6;obtain⟨ao,oc,QX,_,_,_⟩:=Ow.bO h.gone;obtain⟨on,hon⟩:∃ on,on=W.gone.length:=⟨_,rfl⟩
 rw[<-hon] at QX hgl;have VY:Hid (∀ B1 ks W1 H,B1.bw=B.bw->B1.vg=B.vg->W1.gone=W.gone->WK B1 V w0 ks W1 H->H.cell? (J B.bw 42)=some (.slice ao on oc)∧H.ownsRow 0 3 1 (.slice ao on oc) on (W.gone.map i64)∧on<100000∧B1.vg=.slice ao on oc):=fun B1 ks W1 H e1 e2 e3 q=>by
  have y:=(q.fZ 42 (pq q.i8 q.o8)).1;have y2:=q.gone;rw[e1,e2,QX] at y;rw[e2,e3,QX,<-hon] at y2;exact⟨y,y2,hgl,by rw[e2,QX]⟩
 clear QX hgl hon;obtain⟨lv,wt,a1,a2,a3,a4,en,a6,hst,hen⟩:∃ lv wt a1 a2 a3 a4,∃ en:Nat,∃ a6,dF (W.D.status s)=#[.bool lv,.bool true,.bool wt,I a1,I a2,I a3,zu a4,zu en,I a6]∧en=(W.D.status s).ay:=by
  refine⟨(W.D.status s).live,(W.D.status s).waits,((W.D.status s).id:Int),((W.D.status s).ax:Int),((W.D.status s).state:Int),((W.D.status s).aJ:Int),(W.D.status s).ay,((W.D.status s).ops:Int),?_,rfl⟩;unfold dF;rw[hbz]
 obtain⟨lk,hlk⟩:∃ lk,lk=W.D.aA:=⟨_,rfl⟩
 obtain⟨ni,og⟩:∃ ni,ni=aC.aA:=⟨_,rfl⟩
 rw[<-hlk] at hl1 hl2 hl3;rw[<-og] at hl1 hl2;have sZ:dF (aC.status s)=#[.bool false,.bool false,.bool false,I 0,I 0,I 0,zu 0,zu 0,I 0]:=by rw[hnz];rfl
 rw[<-hen];clear hnz hbz hen;have hl:=h.dl;have hln:=h.KR;obtain⟨⟨pd,pv⟩,Y,TG⟩:∃ q,B.ds[k]? =some q∧q.1=p:=by
  rw[<-hl,List.getElem?_map] at hp
  cases hq:B.ds[k]? with
  |none=>rw[hq] at hp;cases hp
  |some q=>rw[hq] at hp;exact⟨q,rfl,zj hp⟩
 obtain rfl:pd=p:=TG;obtain⟨gd,cap,hvd,_,_,hgm,_⟩:=h.Bl Y;have hkl:k<W.bq.length:=(List.getElem?_eq_some_iff.1 hp).1;obtain⟨n,hn⟩:∃ n,n=W.bq.length:=⟨_,rfl⟩
 have Bn:=hvd;rw[hln,<-hn] at hvd;have zp:Hid (∀ B1 ks W1 H,B1.bw=B.bw->B1.vd=B.vd->WK B1 V w0 ks W1 H->H.cell? (J B.bw 1)=some (.slice (some (J gd 0)) n cap)):=fun B1 ks W1 H e1 e2 q=>by
  have y1:=(q.fZ 1 rfl).1;rw[e1,e2,hvd] at y1;exact y1
 have E2:Hid (∀ B1 ks W1 H,B1.bw=B.bw->W1.ids=W.ids->WK B1 V w0 ks W1 H->zT H B.bw (2+s) ((k:Int)+1)∧H.frozen? (J B.bw (2+s))=false):=fun B1 ks W1 H e1 e2 q=>by
  have y2:=q.fZ (2+s) (lK (W:=W1) q.i8 hs);rw[e1,e2,hid] at y2;exact y2
 have F1:Hid (∀ ks H,WK B V w0 ks {W with D:=aC} H->H.cell? ⟨gd,k*6+2,none⟩=some (i64 pd.state)∧H.frozen? ⟨gd,k*6+2,none⟩=false∧WK {B with ds:=B.ds.set k ({pd with state:=4},pv)} V w0 ks {W with D:=aC,bq:=W.bq.set k {pd with state:=4}} (H.setCell ⟨gd,k*6+2,none⟩ (I 4))):=fun ks H q=>by
  obtain⟨UO,cap',hv',_,_,_,hf⟩:=q.Bl Y;rw[Bn] at hv';simp only[Value.slice.injEq,Option.some.injEq,Addr.mk.injEq,and_true,true_and] at hv';obtain⟨rfl,rfl⟩:=hv';obtain⟨f1,f2⟩:=hf 2 (i64 pd.state) (by omega) rfl;exact⟨f1,f2,q.vM Y (j:=2) (by omega) (I 4) {pd with state:=4} rfl rfl Bn⟩
 have F2:Hid (∀ ks H,WK {B with ds:=B.ds.set k ({pd with state:=4},pv)} V w0 ks {W with D:=aC,bq:=W.bq.set k {pd with state:=4}} H->H.cell? ⟨gd,k*6+4,none⟩=some (u64 pd.ay)∧H.frozen? ⟨gd,k*6+4,none⟩=false∧WK {B with ds:=B.ds.set k ({pd with state:=4,ay:=en},pv)} V w0 ks {W with D:=aC,bq:=W.bq.set k {pd with state:=4,ay:=en}} (H.setCell ⟨gd,k*6+4,none⟩ (zu en))):=fun ks H q=>by
  have hk2:({B with ds:=B.ds.set k ({pd with state:=4},pv)}:dW).ds[k]? =some ({pd with state:=4},pv):=by
   show (B.ds.set k _)[k]? =_;rw[List.getElem?_set_self (by rw[hln];exact hkl)]
  have Ld:({B with ds:=B.ds.set k ({pd with state:=4},pv)}:dW).vd=.slice (some (J gd 0)) (B.ds.set k ({pd with state:=4},pv)).length cap:=by rw[nD];exact Bn
  obtain⟨UO,cap',hv',_,_,_,hf⟩:=q.Bl hk2;rw[Ld] at hv';simp only[Value.slice.injEq,Option.some.injEq,Addr.mk.injEq,and_true,true_and] at hv';obtain⟨rfl,rfl⟩:=hv';obtain⟨f1,f2⟩:=hf 4 (u64 pd.ay) (by omega) rfl;have h9:=q.vM hk2 (j:=4) (by omega) (zu en) {pd with state:=4,ay:=en} rfl rfl Ld;simp only[List.set_set] at h9;exact⟨f1,f2,h9⟩
 have F3:Hid (∀ B1 ks W1 H,B1.bw=B.bw->WK B1 V w0 ks W1 H->WK B1 V w0 ks {W1 with ids:=W1.ids.set s 0} (H.setCell (J B.bw (2+s)) (I 0))):=fun B1 ks W1 H e1 q=>by
  have:=q.KU hs 0;rw[e1] at this;exact this
 have PT:Hid (∀ ks H g g' ob TM,WK B V w0 ks {W with D:=aC} H->Kept.obj g ob∈ks->Kept.obj g' TM∈ks->gd≠B.bw∧gd≠g∧gd≠g'):=fun ks H g g' ob TM q hm hm'=>by
  have hbw:B.M B.bw=some .bT:=by obtain⟨A,rfl,l,r',g0,t⟩:=q.ex;exact (r'.mem.all .bT).1
  have hno:=q.um hm;have hno':=q.um hm';refine⟨fun e=>?_,fun e=>?_,fun e=>?_⟩
  . rw[e,hbw] at hgm;cases hgm
  . rw[e,hno] at hgm;cases hgm
  . rw[e,hno'] at hgm;cases hgm
 have m2:((k:Int)<0)=False:=by simp
 have m3:decide ((k:Int)<0)=false:=by simp
 have m4:((n:Int)<=(k:Int))=False:=by simp;omega
 have m5:decide ((n:Int)<=(k:Int))=false:=by simp;omega
 have m6:(n<=k)=False:=by simp;omega
 have m7:(k:Int)<(n:Int):=by omega
 have m8:(0:Int)<=(k:Int):=by omega
 have m9:k<n:=by omega
 have kb:k<100000:=by omega
 have m1:IntKind.i64.wrap (k:Int)=(k:Int):=by rw[je];omega
 clear hid hp hdl hl hln Y hvd Bn hgm hkl hn;have N1:Hid (∀ ks H,WK B V w0 ks W H->zk 10 #[R V 0,I s] H fun e E=>e=.returned (.agg #[.bool lv,.bool true,.bool wt,I a1,I a2,I a3,zu a4,zu en,I a6])∧WK B V w0 ks W E):=fun ks H q=>by
  have hh:=fF q s hs;rw[hst] at hh;exact hh
 have N2:Hid (∀ ks H,WK B V w0 ks W H->zk 56 #[R V 0] H fun e E=>e=.returned (I lk)∧H=E):=fun ks H q=>by
  have hh:=iR q;rw[<-hlk] at hh;exact hh
 have N3:Hid (∀ ks H,WK B V w0 ks W H->zk 34 #[R V 0,I s] H fun e E=>∃ va vn vc,e=.returned (.tuple #[.agg #[I 3,I r.e,I r.value,.slice va vn vc,I 4,I r.aI],I 0])∧WK B V w0 (.row 2 (.slice va vn vc) (bQ r.aL)::ks) {W with D:=aC} E):=fun ks H q=>by
  refine (sV q hs hbe).mono ?_;rintro e E ⟨va,vn,vc,rfl,yX,q⟩;rw[hov];exact⟨va,vn,vc,rfl,q⟩
 have N4:Hid (∀ ks H,WK B V w0 ks {W with D:=aC} H->zk 56 #[R V 0] H fun e E=>e=.returned (I ni)∧H=E):=fun ks H q=>by
  have hh:=iR q;rw[<-og] at hh;exact hh
 have N5:Hid (∀ ks H,WK B V w0 ks {W with D:=aC} H->zk 10 #[R V 0,I s] H fun e E=>e=.returned (.agg #[.bool false,.bool false,.bool false,I 0,I 0,I 0,zu 0,zu 0,I 0])∧WK B V w0 ks {W with D:=aC} E):=fun ks H q=>by
  have hh:=fF q s hs;rw[sZ] at hh;exact hh
 have C:Hid (∀ bF ks H,WK B V w0 ks {W with D:=bF} H->H.cell? (J B.bw 0)=zs V 0):=fun bF ks H q=>(q.fZ 0 rfl).1
 have O1:Hid (∀ ks W1 H g,WK B V w0 (.obj g (.cells #[.bool lv,.bool true,.bool wt,I a1,I a2,I a3,zu a4,zu en,I a6] 42)::ks) W1 H->zB H g 1 true∧zV H g 7 en):=fun ks W1 H g q=>by
  have Z:=q.obj (iG);exact⟨au Z 1 rfl,au Z 7 rfl⟩
 have b0:((s:Int)<0)=False:=by simp
 have b1:((7:Int)<(s:Int))=False:=by simp;omega
 have b2:(0:Int)<=(s:Int):=by omega
 have b3:(s:Int)<8:=by omega
 have b4:decide ((s:Int)<0)=false:=by simp
 have b5:decide ((7:Int)<(s:Int))=false:=by simp;omega
 have b6:(7<s)=False:=by simp;omega
 have n1:IntKind.i64.wrap ((lk:Int)+1)=(lk:Int)+1:=by rw[je];omega
 have c1:((lk:Int)+1<(ni:Int))=False:=by simp;omega
 have c2:decide ((lk:Int)+1<(ni:Int))=false:=by simp;omega
 have c3:((ni:Int)<(lk:Int))=False:=by simp;omega
 have c4:decide ((ni:Int)<(lk:Int))=false:=by simp;omega
 have c5:(ni<lk)=False:=by simp;omega
 have m0:wrap64 (k:Int)=(k:Int):=by unfold wrap64;omega
 clear kb;have T0:=U h;have x0:=C.out W.D _ _ T0.out;clear hst sZ hlk og hl1 hl2 hl3 hbe h hs hov;go_enter Tryz.func57,Tryz.ntmps57;go_upto_region 11 with (first|(go_at_call 10;refine (N1.out _ _ T0.out).mono ?_;clear T0;rintro e H ⟨rfl,q⟩;have x1:=C.out W.D _ _ (q.alloc (.cells #[.bool lv,.bool true,.bool wt,I a1,I a2,I a3,zu a4,zu en,I a6] 42));have T1:=U (q.alloc (.cells #[.bool lv,.bool true,.bool wt,I a1,I a2,I a3,zu a4,zu en,I a6] 42));clear q)|(go_at_call 56;refine (N2.out _ _ T1.out).mono ?_;rintro e E ⟨rfl,rfl⟩;have T2:=T1;clear T1)|(go_at_call 34;refine (N3.out _ _ T2.out).mono ?_;clear T2;rintro e w3 ⟨va,vn,vc,rfl,q⟩;have q2:=q.alloc (.cells #[I 3,I r.e,I r.value,.slice va vn vc,I 4,I r.aI] 81);have x3:=C.out aC _ _ q2;obtain⟨y1,y2⟩:=O1.out _ _ _ _ q2.tail.tail;have T3:=U q2;clear q q2)|(go_at_call 56;refine (N4.out _ _ T3.out).mono ?_;rintro e E ⟨rfl,rfl⟩)|(go_at_call 10;refine (N5.out _ _ T3.out).mono ?_;clear T3;rintro e w6 ⟨rfl,q⟩;have q2:=q.alloc (.cells #[.bool false,.bool false,.bool false,I 0,I 0,I 0,zu 0,zu 0,I 0] 42);have T6:=U q2;clear q q2))
 generalize hv6:w6.alloc _=v6 at*;generalize H.heap.size=g1 at*;generalize w3.heap.size=g2 at*;generalize w6.heap.size=g3 at*;have x6:=C.out aC _ _ T6.out;have k3:=T6.out.obj iG;have k2:=T6.out.tail.obj iG;have k1:=T6.out.tail.tail.tail.obj iG;have z30:=au k3 0 rfl;have z31:=au k3 1 rfl;have z32:=au k3 2 rfl;have z20:=au k2 0 rfl;have z21:=au k2 1 rfl;have z22:=au k2 2 rfl;have z23:=au k2 3 rfl;have z24:=au k2 4 rfl;have z25:=au k2 5 rfl;have z17:=au k1 7 rfl;clear k1 k2 k3 hv6 N1 N2 N3 N4 N5 C O1 b0 b1 b4 b5 b6 c1 c2 c3 c4 c5 n1;have y1:=zp.out _ _ _ _ (by rfl) (by rfl) T6.out;obtain⟨y2,TN⟩:=E2.out _ _ _ _ (by rfl) (by rfl) T6.out;go_upto_region 22 with fail
 have T7:=U T6.out.drew;have GN:=U (PT.out _ _ g2 g1 _ _ T7.out (nV _ iG) (nV _ (nV _ (nV _ iG))));obtain⟨f1,f2,f3⟩:=F1.out _ _ T7.out;have T8:=U f3;have S0:v6.drew.cell? (J B.bw 1)=some (.slice (some (J gd 0)) n cap)∧zT v6.drew g2 4 4:=⟨y1,z24⟩
 clear f3 PT F1 T6 z20 z21 z22 z24 z25 z30 z31 z32 x6 m1 m0 y2 TN y1 z23 z17;refine wp_region_held_drew (S:=fun E=>E.cell? (J B.bw 1)=some (.slice (some (J gd 0)) n cap)∧zT E g2 4 4) (by kernel_rfl) ?_ (fun aD=>?_)
 . (try dsimp only);exact S0
 generalize v6.drew=vd at*;refine gp (i:=0) rfl aD ?_
 (try simp only[dK,dL,dM,Act.put,dN,dO,dP])
 refine gp (i:=1) rfl aD ?_
 (try simp only[dK,dL,dM,Act.put,dN,dO,dP])
 refine gp (i:=2) rfl aD ?_
 (try simp only[dK,dL,dM,Act.put,dN,dO,dP])
 refine gp (i:=3) rfl aD ?_
 (try simp only[dK,dL,dM,Act.put,dN,dO,dP])
 refine gp (i:=4) rfl aD ?_
 (try simp only[dK,dL,dM,Act.put,dN,dO,dP])
 refine gp (i:=5) rfl aD ?_
 (try simp only[dK,dL,dM,Act.put,dN,dO,dP])
 refine gp (i:=6) rfl aD ?_
 (try simp only[dK,dL,dM,Act.put,dN,dO,dP])
 refine gp (i:=7) rfl aD ?_
 (try simp only[dK,dL,dM,Act.put,dN,dO,dP])
 refine gp (i:=8) rfl aD ?_
 (try simp only[dK,dL,dM,Act.put,dN,dO,dP])
 refine gp (i:=9) rfl aD ?_
 (try simp only[dK,dL,dM,Act.put,dN,dO,dP])
 refine wpAnyH_ready (rs:=[10]) (by kernel_rfl) (by simp) ?_;refine AllReadyH.cons (o:=_) rfl (fun K hK=>?_) AllReadyH.nil;go_simp;refine hK.out _ _ ?_ (fun aD=>?_)
 . (try dsimp only);exact⟨bV (by exact GN.out.1) aD.1,bV (by exact GN.out.2.1) aD.2⟩
 clear hK K
 (try simp only[dK,dL,dM,Act.put,dN,dO,dP])
 refine wpAnyH_done (by kernel_rfl) ?_ _;generalize vd.setCell _ _=v8 at*;have y1:=zp.out _ _ _ _ (by rfl) (by rfl) T8.out;have z17:=au (T8.out.tail.tail.tail.obj iG) 7 rfl;clear aD S0 f1 f2 T7;go_upto_region 23 with fail
 obtain⟨f1,f2,f3⟩:=F2.out _ _ T8.out.drew;have T9:=U f3;have S0:v8.drew.cell? (J B.bw 1)=some (.slice (some (J gd 0)) n cap)∧zV v8.drew g1 7 en:=⟨y1,z17⟩
 clear f3 F2 y1 z17;refine wp_region_held_drew (S:=fun E=>E.cell? (J B.bw 1)=some (.slice (some (J gd 0)) n cap)∧zV E g1 7 en) (by kernel_rfl) ?_ (fun aD=>?_)
 . (try dsimp only);exact S0
 generalize v8.drew=ve at*;refine gp (i:=0) rfl aD ?_
 (try simp only[dK,dL,dM,Act.put,dN,dO,dP])
 refine gp (i:=1) rfl aD ?_
 (try simp only[dK,dL,dM,Act.put,dN,dO,dP])
 refine gp (i:=2) rfl aD ?_
 (try simp only[dK,dL,dM,Act.put,dN,dO,dP])
 refine gp (i:=3) rfl aD ?_
 (try simp only[dK,dL,dM,Act.put,dN,dO,dP])
 refine gp (i:=4) rfl aD ?_
 (try simp only[dK,dL,dM,Act.put,dN,dO,dP])
 refine gp (i:=5) rfl aD ?_
 (try simp only[dK,dL,dM,Act.put,dN,dO,dP])
 refine gp (i:=6) rfl aD ?_
 (try simp only[dK,dL,dM,Act.put,dN,dO,dP])
 refine gp (i:=7) rfl aD ?_
 (try simp only[dK,dL,dM,Act.put,dN,dO,dP])
 refine gp (i:=8) rfl aD ?_
 (try simp only[dK,dL,dM,Act.put,dN,dO,dP])
 refine wpAnyH_ready (rs:=[9]) (by kernel_rfl) (by simp) ?_;refine AllReadyH.cons (o:=_) rfl (fun K hK=>?_) AllReadyH.nil;go_simp;refine hK.out _ _ ?_ (fun aD=>?_)
 . (try dsimp only);exact⟨bV (by exact GN.out.1) aD.1,bV (by exact GN.out.2.2) aD.2⟩
 clear hK K
 (try simp only[dK,dL,dM,Act.put,dN,dO,dP])
 refine wpAnyH_done (by kernel_rfl) ?_ _;generalize ve.setCell _ _=v9 at*;have k2:=T9.out.tail.obj iG;have z24:=au k2 4 rfl;clear k2 aD S0 f1 f2 T8;go_upto_region 25 with fail
 have MS:=U T9.out.drew;have S0:v9.drew.cell? (J g2 5)=zt r.aI:=au (MS.out.tail.obj iG) 5 rfl;obtain⟨YP,Li,Lj,Ll⟩:=VY.out _ _ _ _ (by rfl) (by rfl) (by rfl) MS.out;have z42:=(MS.out.fZ 42 (pq MS.out.i8 MS.out.o8)).2;have hno:=MS.out.um (nV _ iG);have hgx:(Value.slice ao on oc).ownBlock≠some g2:=fun e=>by
  obtain⟨A,rfl,l,r',g0,t⟩:=MS.out.ex;have:=(r'.mem.all .free).2 g2 (by rw[Ll];exact e);rw[hno] at this;cases this
 have TQ:g2<v9.drew.heap.size:=World.block_lt_of_cell? _ _ S0;have hgn2:B.bw≠g2:=fun e=>by
  have TS:B.M B.bw=some .bT:=by obtain⟨A,rfl,l,r',g0,t⟩:=MS.out.ex;exact (r'.mem.all .bT).1
  rw[e,hno] at TS;cases TS
 have hor:=MS.out.alloc (.cells #[I r.aI] 3);have GX:=U hgx;have GL:=U TQ;have TU:Hid ((v9.drew.alloc (.cells #[I r.aI] 3)).ownsRow 0 3 1 (.slice ao on oc) on (W.gone.map i64)∧on<100000):=⟨(VY.out _ _ _ _ (by rfl) (by rfl) (by rfl) hor).2.1,Lj⟩
 have TV:Hid (∀ v' w8,w8.ownsRow 0 3 1 v' (on+1) (W.gone.map i64++[I r.aI])->(v9.drew.alloc (.cells #[I r.aI] 3)).grownBy w8 (Value.slice ao on oc).ownBlock->(v'.ownBlock=(Value.slice ao on oc).ownBlock∨∀ g,v'.ownBlock=some g->(v9.drew.alloc (.cells #[I r.aI] 3)).heap.size<=g)->w8.cell? (J B.bw 42)=some (.slice ao on oc)∧w8.frozen? (J B.bw 42)=false∧(∀ a v,a.block<v9.drew.heap.size->(Value.slice ao on oc).ownBlock≠some a.block->v9.drew.cell? a=some v->w8.cell? a=some v)∧∃ B',B'.bw=B.bw∧WK B' V w0 (.obj g3 (.cells #[.bool false,.bool false,.bool false,I 0,I 0,I 0,zu 0,zu 0,I 0] 42)::.obj g2 (.cells #[I 3,I r.e,I r.value,.slice va vn vc,I 4,I r.aI] 81)::.row 2 (.slice va vn vc) (bQ r.aL)::.obj g1 (.cells #[.bool lv,.bool true,.bool wt,I a1,I a2,I a3,zu a4,zu en,I a6] 42)::ks) {W with D:=aC,bq:=W.bq.set k {pd with state:=4,ay:=en},gone:=W.gone++[r.aI]} (w8.setCell (J B.bw 42) v')):=fun v' w8 q1 q2 q3=>by
  have hlen:on=W.gone.length:=(by have:=Li.1;simpa using this.symm)
  have:=MS.out.OQ (v':=v') (E:=w8) r.aI ((Below.refl _ v9.drew).alloc (zr _) (.cells #[I r.aI] 3)) (by rw[hlen] at q1;exact q1) (by rw[Ll];exact q2) (by rw[Ll];exact q3);rw[Ll] at this;exact this
 have XC:=U (zA hgn2 hgn2);clear GN;have GN:=XC;clear XC hgx TQ hor hno hgn2 Ll Li Lj VY;refine wp_region_held_drew (S:=fun E=>E.cell? (J g2 5)=zt r.aI) (by kernel_rfl) ?_ (fun aD=>?_)
 . (try dsimp only);exact S0
 generalize v9.drew=vd at*;have OO:=TU;have HAD:=TV;clear TU TV;have YQ:∀ ob,(vd.alloc ob).cell? (J B.bw 42)=some (.slice ao on oc):=fun ob=>bD YP
 refine gp (i:=0) rfl aD ?_
 (try simp only[dK,dL,dM,Act.put,dN,dO,dP])
 refine gp (i:=1) rfl aD ?_
 (try simp only[dK,dL,dM,Act.put,dN,dO,dP])
 refine gp (i:=2) rfl aD ?_
 (try simp only[dK,dL,dM,Act.put,dN,dO,dP])
 refine gp (i:=3) rfl aD ?_
 (try simp only[dK,dL,dM,Act.put,dN,dO,dP])
 refine gp (i:=5) rfl aD ?_
 (try simp only[dK,dL,dM,Act.put,dN,dO,dP])
 refine gp (i:=6) rfl aD ?_
 (try simp only[dK,dL,dM,Act.put,dN,dO,dP])
 refine gp (i:=7) rfl aD ?_
 (try simp only[dK,dL,dM,Act.put,dN,dO,dP])
 refine wpAnyH_ready (rs:=[4,8]) (by kernel_rfl) (by simp) ?_;refine AllReadyH.cons (o:=_) rfl (fun K hK=>?_) (AllReadyH.cons (o:=_) rfl (fun K hK=>?_) AllReadyH.nil)
 focus (
  go_simp
  refine hK.out _ _ ?_ (fun aD=>?_)
  . (try dsimp only);exact aD
  clear hK K
  (try simp only[dK,dL,dM,Act.put,dN,dO,dP])
  refine wpAnyH_ready (rs:=[8]) (by kernel_rfl) (by simp) ?_
  refine AllReadyH.cons (o:=_) rfl (fun K hK=>?_) AllReadyH.nil
  go_simp
  refine hK.out _ _ ?_ (fun aD=>?_)
  . (try dsimp only);exact bD aD
  clear hK K
  (try simp only[dK,dL,dM,Act.put,dN,dO,dP])
 )
 rotate_left
 focus (
  go_simp
  refine hK.out _ _ ?_ (fun aD=>?_)
  . (try dsimp only);exact bD aD
  clear hK K
  (try simp only[dK,dL,dM,Act.put,dN,dO,dP])
  refine wpAnyH_ready (rs:=[4]) (by kernel_rfl) (by simp) ?_
  refine AllReadyH.cons (o:=_) rfl (fun K hK=>?_) AllReadyH.nil
  go_simp
  refine hK.out _ _ ?_ (fun aD=>?_)
  . (try dsimp only);exact aD
  clear hK K
  (try simp only[dK,dL,dM,Act.put,dN,dO,dP])
 )
 rotate_left
 all_goals (
  refine wpAnyH_ready (rs:=[9]) (by kernel_rfl) (by simp) ?_
  refine AllReadyH.cons (o:=_) rfl (fun K hK=>?_) AllReadyH.nil
  rw[aW (by rfl)]
  refine Ow.jH _ (.tmp 205) (.tmp 209) 36 rfl 0 3 ii _ 1 8 Tryz.underlying36 hii hz0 hz1 hz2 rfl (by decide) (.slice ao on oc) on (W.gone.map i64) rfl (by exact OO.out.1) (J vd.heap.size 0) 1 1 (by omega) [I r.aI] rfl rfl (fun j u hu=>Ow.iC vd [I r.aI] _ vd.heap.size (by simp) j u hu) (by intro u hu;simp at hu;rcases hu with rfl<;>rfl) (by have:=OO.out.2;unfold maxLen;omega) (by have:=OO.out.2;omega) (zz _) ?_;intro v' w8 q1 q2 q3;obtain⟨r1,YR,r3,B',r4,r5⟩:=HAD.out v' w8 q1 q2 q3;obtain⟨XA,XB,rfl,_⟩:=Ow.bO q1;have T8:=U (zA r4 r5);clear q1 q2 q3 r4 r5
  refine hK.out _ _ ?_ (fun aD=>?_)
  . (try dsimp only);exact r3 _ _ (by exact GL.out) (by exact GX.out) S0
  clear hK K
  (try simp only[dK,dL,dM,Act.put,dN,dO,dP])
  refine gp (i:=10) rfl aD ?_
  (try simp only[dK,dL,dM,Act.put,dN,dO,dP])
  refine gp (i:=11) rfl aD ?_
  (try simp only[dK,dL,dM,Act.put,dN,dO,dP])
  refine wpAnyH_ready (rs:=[12]) (by kernel_rfl) (by simp) ?_
  refine AllReadyH.cons (o:=_) rfl (fun K hK=>?_) AllReadyH.nil
  go_simp
  refine hK.out _ _ ?_ (fun aD=>?_)
  . (try dsimp only);exact bV (by exact GN.out.2) aD
  clear hK K
  (try simp only[dK,dL,dM,Act.put,dN,dO,dP])
  refine wpAnyH_done (by kernel_rfl) ?_ _
 )
 all_goals (
  clear r1 YR r3 aD S0 OO HAD GL GX
  generalize w8.setCell _ _=v10 at*
  obtain⟨OT,hwk⟩:=T8.out
  obtain⟨y2,TN⟩:=E2.out _ _ _ _ OT (by rfl) hwk
  have TP:=U (F3.out _ _ _ _ OT hwk)
  have YS:=U OT
  have k3:=TP.out.obj iG
  have z0:=au k3 0 rfl
  have z1:=au k3 1 rfl
  have z2:=au k3 2 rfl
  have z3:=au k3 3 rfl
  have z4:=au k3 4 rfl
  have z5:=au k3 5 rfl
  have z6:=au k3 6 rfl
  have z7:=au k3 7 rfl
  have z8:=au k3 8 rfl
  clear k3 GN zp E2 F3 T8 hwk OT
  go_wp2
  go_ret
  exact⟨rfl,[_,_,_,_],_,YS.out,TP.out⟩
 )
end Go.Proofs.YthicolbbmjfkfaaGreat.Em
