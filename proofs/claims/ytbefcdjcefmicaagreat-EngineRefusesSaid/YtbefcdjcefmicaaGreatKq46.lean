import Derived.Test.YtbefcdjcefmicaaGreatKq44
import Derived.Deep.RegionWith
namespace Go.Proofs.YtbefcdjcefmicaaGreat.Em
open Go.ChangeShapes Go.WideShapes Go.ChangeAt Go.RowKit En
set_option linter.unusedVariables false
set_option linter.unusedSimpArgs false
set_option maxRecDepth 100000
set_option maxHeartbeats 1600000
theorem dealsCs_len (l:List (Dl×Value)):(dealsCs l).length=l.length*6:=by
 unfold dealsCs
 induction l with
 |nil=>rfl
 |cons a l ih=>rw[List.flatMap_cons,List.length_append,ih,List.length_cons,show (dealCs a.1 a.2).length=6 from rfl];omega
theorem dealsCs_get:∀ (l:List (Dl×Value)) (k j:Nat),j<6→(dealsCs l)[k*6+j]? =(l[k]?).bind fun p=>(dealCs p.1 p.2)[j]?
 |[],_,_,_=>rfl
 |a::l,0,j,hj=>by
  unfold dealsCs;rw[List.flatMap_cons,Nat.zero_mul,Nat.zero_add,List.getElem?_append_left (by exact hj)];rfl
 |a::l,k+1,j,hj=>by
  have h:=dealsCs_get l k j hj;unfold dealsCs at h ⊢;rw[List.flatMap_cons,List.getElem?_append_right (by show 6≤_;omega),show (k+1)*6+j - (dealCs a.1 a.2).length=k*6+j by show _ - 6=_;omega,h];rfl
theorem dealsCs_set:∀ (l:List (Dl×Value)) (k j:Nat) (u:Value) (p p':Dl×Value),j<6→l[k]? =some p→(dealCs p.1 p.2).set j u=dealCs p'.1 p'.2→(dealsCs l).set (k*6+j) u=dealsCs (l.set k p')
 |[],_,_,_,_,_,_,h,_=>by cases h
 |a::l,0,j,u,p,p',hj,h,he=>by
  obtain rfl:a=p:=by simpa using h
  unfold dealsCs;rw[List.flatMap_cons,Nat.zero_mul,Nat.zero_add,List.set_append_left _ _ (by exact hj),he];rfl
 |a::l,k+1,j,u,p,p',hj,h,he=>by
  have ih:=dealsCs_set l k j u p p' hj (by simpa using h) he;unfold dealsCs at ih ⊢;rw[List.flatMap_cons,List.set_append_right _ _ (by show 6≤_;omega),show (k+1)*6+j - (dealCs a.1 a.2).length=k*6+j by show _ - 6=_;omega,ih];rfl
theorem Kepts.rowOf {L:Lab} {w:World} {size:Nat} {v:Value} {xs:List Value}:∀ {ks:List Kept},Kepts L w ks→Kept.row size v xs∈ks→FRow L w size v xs
 |[],_,h=>by cases h
 |x::ks,t,h=>by
  rcases List.mem_cons.1 h with rfl|h
  · exact t.1
  · exact Kepts.rowOf t.2 h
section
variable {B:WBook} {be:Nat} {w0 w w':World} {ks:List Kept} {W:Wd}
theorem own_slice {w:World} {base:Nat} {e:TypeId} {size:Nat} {v:Value} {n:Nat} {xs:List Value} (h:w.ownsRow base e size v n xs) (hn:0<n):∃ g cap,v=.slice (some ⟨g,0,none⟩) n cap∧n≤cap∧cap≤maxLen:=by
 rcases h.2 with ⟨_,h0⟩|⟨g,cap,cur,hv,hb,hg,hnc,hcm,_⟩
 · omega
 · exact⟨g,cap,hv,hnc,hcm⟩
theorem WK.deal (h:WK B be w0 ks W w) {k:Nat} {p:Dl×Value} (hk:B.ds[k]? =some p):∃ g cap,B.vd=.slice (some ⟨g,0,none⟩) B.ds.length cap∧B.ds.length≤cap∧cap≤maxLen∧B.M g=some .tale∧∀ j v,j<6→(dealCs p.1 p.2)[j]? =some v→w.cell? ⟨g,k*6+j,none⟩=some v∧w.frozen? ⟨g,k*6+j,none⟩=false:=by
 have hlt:k<B.ds.length:=(List.getElem?_eq_some_iff.1 hk).1;obtain⟨A,rfl,l,r,g0,t⟩:=h.ex;have ho:=r.mem.all .tale;obtain⟨g,cap,hv,hnc,hcm⟩:=own_slice ho.1 (by omega);refine⟨g,cap,hv,hnc,hcm,ho.2 g (by rw[hv];rfl),fun j v hj hv'=>?_⟩;have h1:=ho.1;rw[hv] at h1;have hl:=dealsCs_len B.ds;refine⟨?_,h1.frozenAt _⟩;rw[h1.cellAt (k*6+j) (by omega),dealsCs_get _ _ _ hj,hk];exact hv'
theorem WK.opsRow (h:WK B be w0 ks W w) {k:Nat} {p:Dl×Value} (hk:B.ds[k]? =some p):w.ownsRow 0 57 9 p.2 p.1.ops.length (B.cs k)∧∀ g,p.2.ownBlock=some g→B.M g=some (.reads k):=by
 obtain⟨A,rfl,l,r,g0,t⟩:=h.ex;have ho:=r.mem.all (.reads k);simp only[wmem,hk] at ho;exact ho
theorem WK.setDeal (h:WK B be w0 ks W w) {k:Nat} {p:Dl×Value} (hk:B.ds[k]? =some p) {j:Nat} (hj:j<6) (u:Value) (d':Dl) (hd:(dealCs p.1 p.2).set j u=dealCs d' p.2) (hops:d'.ops=p.1.ops) {g cap:Nat} (hg:B.vd=.slice (some ⟨g,0,none⟩) B.ds.length cap):
 WK {B with ds:=B.ds.set k (d',p.2)} be w0 ks {W with deals:=W.deals.set k d'} (w.setCell ⟨g,k*6+j,none⟩ u):=by
 have hlt:k<B.ds.length:=(List.getElem?_eq_some_iff.1 hk).1;have hge:∀ b r,B.M b=some r→w0.heap.size≤b:=fun b r=>h.ge
 obtain⟨A,rfl,l,r,g0,t⟩:=h.ex;have ho:=r.mem.all .tale;have hgm:B.M g=some .tale:=ho.2 g (by rw[hg];rfl);have hl:A.L g=some .tmp:=r.tie _ _ hgm;have hbut:=But.setCell w ⟨g,k*6+j,none⟩ u;have h1:=ho.1;rw[hg] at h1;obtain⟨hs,_⟩:=h1.stored (k*6+j) u;rw[dealsCs_set B.ds k j u p (d',p.2) hj hk hd] at hs;refine⟨A,rfl,l.but hl hbut,⟨r.tie,?_,fun k' p' hk'=>?_,?_,r.i8,r.o8⟩,g0.but (hge _ _ hgm) hbut,Kepts.soft (hbut.soft hl) t⟩
 · refine r.mem.upd .tale ?_ (fun q hq=>?_) (fun b q hb' hl' hq=>hbut.block b ?_) (fun _ _=>rfl) (fun b hb'=>r.mem.fresh b (by rw[←hbut.size];exact hb'))
   · show Entry.Holds B.M _ .tale (.own B.vd _ 6 (B.ds.set k (d',p.2)).length (dealsCs (B.ds.set k (d',p.2))))
     rw[List.length_set,hg];refine⟨hs,fun g' hg'=>?_⟩;obtain rfl:g=g':=by simpa [Value.ownBlock] using hg'
     exact hgm
   · cases q with
     |tale=>exact absurd rfl hq
     |reads k'=>
      simp only[wmem]
      by_cases hkk:k'=k
      · subst hkk
        rw[List.getElem?_set_self hlt,hk];show Entry.own p.2 _ 9 d'.ops.length _=_;rw[hops]
      · rw[List.getElem?_set_ne (Ne.symm hkk)]
     |_=>rfl
   · rintro rfl
     rw[hgm] at hl';exact hq (Option.some.inj hl').symm
 · by_cases hkk:k'=k
   · subst hkk
     replace hk':(B.ds.set k' (d',p.2))[k']? =some p':=hk';rw[List.getElem?_set_self hlt] at hk';obtain rfl:=Option.some.inj hk';show Cls A.L _ d'.ops (B.cs k');rw[hops];exact (r.cls k' p hk).soft (hbut.soft hl)
   · replace hk':(B.ds.set k (d',p.2))[k']? =some p':=hk'
     rw[List.getElem?_set_ne (Ne.symm hkk)] at hk';exact (r.cls k' p' hk').soft (hbut.soft hl)
 · show (B.ds.set k (d',p.2)).map (·.1)=W.deals.set k d'
   rw[←r.dl,List.map_set]
theorem WK.addOp {w1:World} {v':Value} (h:WK B be w0 ks W w) {k:Nat} {p:Dl×Value} (hk:B.ds[k]? =some p) (oo:En.Op) (rr:Res) (vp:Value) (hp:Kept.row 2 vp (pairCs rr.pairs)∈ks) (hb:Below w.heap.size w w1)
 (ho:w'.ownsRow 0 57 9 v' (p.1.ops.length+1) (B.cs k++callsC oo rr vp)) (hg:w1.grownBy w' p.2.ownBlock) (h3:v'.ownBlock=p.2.ownBlock∨∀ g,v'.ownBlock=some g→w1.heap.size≤g) {gd cap:Nat} (hgd:B.vd=.slice (some ⟨gd,0,none⟩) B.ds.length cap):
 w'.cell? ⟨gd,k*6+5,none⟩=some p.2∧w'.frozen? ⟨gd,k*6+5,none⟩=false∧(∀ a v,a.block<w.heap.size→p.2.ownBlock≠some a.block→w.cell? a=some v→w'.cell? a=some v)∧
 ∃ B',B'.bw=B.bw∧WK B' be w0 ks {W with deals:=W.deals.set k {p.1 with ops:=p.1.ops++[(oo,rr)]}} (w'.setCell ⟨gd,k*6+5,none⟩ v'):=by
 have hlt:k<B.ds.length:=(List.getElem?_eq_some_iff.1 hk).1;have h1:=h.below hb;have hge:∀ b r,B.M b=some r→w0.heap.size≤b:=fun b r=>h1.ge
 have hrow:=h1.opsRow hk;obtain⟨A,rfl,l,r,g,t⟩:=h1.ex;have hod:=r.mem.all .tale;have hgm:B.M gd=some .tale:=hod.2 gd (by rw[hgd];rfl);have htm:TmpRow A.L p.2:=fun b hb=>r.tie b _ (hrow.2 b hb)
 obtain⟨L',hown,htm'⟩:=append_tmp l htm ho hg h3;have hgr:=r.mem.grown (.reads k) (v:=p.2) (v':=v') (n:=p.1.ops.length) (n':=p.1.ops.length+1) (xs:=B.cs k) (by simp only[wmem,hk]) hg ho h3;obtain⟨hm,hgm'⟩:=hgr;have hlt':gd<w1.heap.size:=r.lt hgm;have hne:some gd≠p.2.ownBlock:=by
  intro e;have:=hrow.2 gd e.symm;rw[hgm] at this;cases this
 have hd0:=hm.all .tale;rw[updE_other _ _ (by simp)] at hd0;have hd1:=hd0.1;rw[hgd] at hd1;have hc1:w'.cell? ⟨gd,k*6+5,none⟩=some p.2:=by
  rw[hd1.cellAt (k*6+5) (by have:=dealsCs_len B.ds;omega),dealsCs_get _ _ _ (by omega),hk];rfl
 obtain⟨hs,_⟩:=hd1.stored (k*6+5) v';rw[dealsCs_set B.ds k 5 v' p ({p.1 with ops:=p.1.ops++[(oo,rr)]},v') (by omega) hk rfl] at hs;have hlb:L' gd=some .tmp:=(hown.lab _ hlt').trans (r.tie _ _ hgm);have hbut:=But.setCell w' ⟨gd,k*6+5,none⟩ v';have hsoft:=hbut.soft hlb;have hvp:FRow A.L w1 2 vp (pairCs rr.pairs):=Kepts.rowOf t hp;refine⟨hc1,hd1.frozenAt _,fun a v ha hna hc=>?_,{B with M:=labV B.M v' (.reads k),ds:=B.ds.set k ({p.1 with ops:=p.1.ops++[(oo,rr)]},v'),cs:=fun i=>if i=k then B.cs k++callsC oo rr vp else B.cs i},rfl,{A with L:=L'},rfl,(l.rown hown).but hlb hbut,⟨fun b q hbq=>?_,?_,fun k' p' hk'=>?_,?_,r.i8,r.o8⟩,(g.rown hown (fun b hb=>hge b _ (hrow.2 b hb))).but (hge _ _ hgm) hbut,Kepts.soft hsoft (Kepts.soft hown.soft t)⟩
 · rw[World.cell?_of_block (w:=w) ((hg.block a.block (Nat.lt_of_lt_of_le ha hb.size) (fun e=>hna e.symm)).trans (hb.block a.block ha))];exact hc
 · replace hbq:labV B.M v' (.reads k) b=some q:=hbq
   unfold labV at hbq
   split at hbq
   · rename_i hv
     exact htm' b hv
   · exact (hown.lab b (r.lt hbq)).trans (r.tie b q hbq)
 · have hgl:labV B.M v' (.reads k) gd=some .tale:=by
    unfold labV;rw[if_neg]
    · exact hgm
    · intro e
      rcases h3 with h3|h3
      · exact hne (h3 ▸ e.symm)
      · have:=h3 gd e;omega
   refine hm.upd .tale ?_ (fun q hq=>?_) (fun b q hb' hl' hq=>hbut.block b ?_) (fun _ _=>rfl) (fun b hb'=>hm.fresh b (by rw[←hbut.size];exact hb'))
   · show Entry.Holds (labV B.M v' (.reads k)) _ .tale (.own B.vd _ 6 (B.ds.set k _).length (dealsCs (B.ds.set k ({p.1 with ops:=p.1.ops++[(oo,rr)]},v'))))
     rw[List.length_set,hgd];refine⟨hs,fun g' hg'=>?_⟩;obtain rfl:gd=g':=by simpa [Value.ownBlock] using hg'
     exact hgl
   · cases q with
     |tale=>exact absurd rfl hq
     |reads k'=>
      by_cases hkk:k'=k
      · subst hkk
        rw[updE_same];simp only[wmem];rw[List.getElem?_set_self hlt];simp only[if_true,List.length_append];rfl
      · rw[updE_other _ _ (by simpa using hkk)]
        simp only[wmem];rw[List.getElem?_set_ne (Ne.symm hkk),if_neg hkk]
     |_=>rw[updE_other _ _ (by simp)];rfl
   · intro e
     replace e:b=gd:=e;subst e;replace hl':labV B.M v' (.reads k) b=some q:=hl';rw[hgl] at hl';exact hq (Option.some.inj hl').symm
 · by_cases hkk:k'=k
   · subst hkk
     replace hk':(B.ds.set k' ({p.1 with ops:=p.1.ops++[(oo,rr)]},v'))[k']? =some p':=hk';rw[List.getElem?_set_self hlt] at hk';obtain rfl:=Option.some.inj hk';show Cls L' _ (p.1.ops++[(oo,rr)]) (if k'=k' then _ else _);rw[if_pos rfl];exact (((r.cls k' p hk).snoc oo rr vp hvp).soft hown.soft).soft hsoft
   · replace hk':(B.ds.set k ({p.1 with ops:=p.1.ops++[(oo,rr)]},v'))[k']? =some p':=hk'
     rw[List.getElem?_set_ne (Ne.symm hkk)] at hk';show Cls L' _ p'.1.ops (if k'=k then _ else _);rw[if_neg hkk];exact ((r.cls k' p' hk').soft hown.soft).soft hsoft
 · show (B.ds.set k _).map (·.1)=W.deals.set k _
   rw[←r.dl,List.map_set]
end
theorem wstep_ran {B:WBook} {be:Nat} {w0 w:World} {ks:List Kept} {W:Wd} (h:WK B be w0 ks W w) {s:Nat} (hs:s<8) {σ1:St} {kd:Nat} (hbe:oneStep W.σ s=some (σ1,kd,{})) (hkd:kd=1∨kd=2) (hbz:(W.σ.status s).busy=true) (hl1:σ1.looks≤W.σ.looks+1) (hl2:W.σ.looks≤σ1.looks) (hl3:W.σ.looks<1000000000000000) (hnb:(σ1.status s).busy=true) (hnw:(σ1.status s).waits=decide (kd=2)):
 Calls Tryz.prog 22 #[.pointer (some ⟨B.bw,0,none⟩),zi (s:Int)] w fun e w'=>e=.returned (.bool true)∧∃ ks',WK B be w0 (ks'++ks) {W with σ:=σ1} w':=by
 obtain⟨lv,wt,a1,a2,a3,a4,en,a6,hst,hen⟩:∃ lv wt a1 a2 a3 a4,∃ en:Nat,∃ a6,statusCs (W.σ.status s)=#[.bool lv,.bool true,.bool wt,zi a1,zi a2,zi a3,zu a4,zu (en:Int),zi a6]∧en=(W.σ.status s).end_:=by
  refine⟨(W.σ.status s).live,(W.σ.status s).waits,((W.σ.status s).id:Int),((W.σ.status s).level:Int),((W.σ.status s).state:Int),((W.σ.status s).begin_:Int),(W.σ.status s).end_,((W.σ.status s).ops:Int),?_,rfl⟩;unfold statusCs;rw[hbz]
 obtain⟨lk,hlk⟩:∃ lk,lk=W.σ.looks:=⟨_,rfl⟩
 obtain⟨lk1,hlk1⟩:∃ lk1,lk1=σ1.looks:=⟨_,rfl⟩
 rw[←hlk] at hl1 hl2 hl3;rw[←hlk1] at hl1 hl2;obtain⟨zlv,za1,za2,za3,za4,zen,za6,hst1⟩:∃ zlv za1 za2 za3 za4,∃ zen:Nat,∃ za6,statusCs (σ1.status s)=#[.bool zlv,.bool true,.bool (decide (kd=2)),zi za1,zi za2,zi za3,zu za4,zu (zen:Int),zi za6]:=by
  refine⟨(σ1.status s).live,((σ1.status s).id:Int),((σ1.status s).level:Int),((σ1.status s).state:Int),((σ1.status s).begin_:Int),(σ1.status s).end_,((σ1.status s).ops:Int),?_⟩;unfold statusCs;rw[hnb,hnw]
 clear hnb hnw hbz hen;have hq:∃ kz:Int,kz=(kd:Int)∧∃ wz:Bool,wz=decide (kd=2)∧((kz=1∧wz=false)∨(kz=2∧wz=true)):=⟨_,rfl,_,rfl,by rcases hkd with rfl|rfl<;>simp⟩
 obtain⟨kz,hkz,wz,hwz,hq⟩:=hq;rw[←hwz] at hst1;clear hwz hkd
 rcases hq with ⟨rfl,rfl⟩|⟨rfl,rfl⟩
 · have N1:Hid (∀ ks w1,WK B be w0 ks W w1→Calls Tryz.prog 18 #[.pointer (some ⟨be,0,none⟩),zi (s:Int)] w1 fun e w'=>e=.returned (.agg #[.bool lv,.bool true,.bool wt,zi a1,zi a2,zi a3,zu a4,zu (en:Int),zi a6])∧WK B be w0 ks W w'):=fun ks w1 q=>by
    have hh:=status_wk q s hs;rw[hst] at hh;exact hh
   have N2:Hid (∀ ks w1,WK B be w0 ks W w1→Calls Tryz.prog 29 #[.pointer (some ⟨be,0,none⟩)] w1 fun e w'=>e=.returned (zi (lk:Int))∧w1=w'):=fun ks w1 q=>by
    have hh:=looks_wk q;rw[←hlk] at hh;exact hh
   have N3:Hid (∀ ks w1,WK B be w0 ks W w1→Calls Tryz.prog 19 #[.pointer (some ⟨be,0,none⟩),zi (s:Int)] w1 fun e w'=>∃ va vc,e=.returned (.tuple #[.agg #[zi 1,zi 0,zi 0,.slice va 0 vc,zi 0,zi 0],zi 0])∧WK B be w0 (.row 2 (.slice va 0 vc) (pairCs [])::ks) {W with σ:=σ1} w'):=fun ks w1 q=>by
    refine (step_wk q hs hbe).mono ?_;rintro e w' ⟨va,vn,vc,rfl,hvn,q⟩;subst hvn;rw[←hkz] at*;exact⟨va,vc,rfl,q⟩
   have N4:Hid (∀ ks w1,WK B be w0 ks {W with σ:=σ1} w1→Calls Tryz.prog 29 #[.pointer (some ⟨be,0,none⟩)] w1 fun e w'=>e=.returned (zi (lk1:Int))∧w1=w'):=fun ks w1 q=>by
    have hh:=looks_wk q;rw[←hlk1] at hh;exact hh
   have N5:Hid (∀ ks w1,WK B be w0 ks {W with σ:=σ1} w1→Calls Tryz.prog 18 #[.pointer (some ⟨be,0,none⟩),zi (s:Int)] w1 fun e w'=>e=.returned (.agg #[.bool zlv,.bool true,.bool false,zi za1,zi za2,zi za3,zu za4,zu (zen:Int),zi za6])∧WK B be w0 ks {W with σ:=σ1} w'):=fun ks w1 q=>by
    have hh:=status_wk q s hs;rw[hst1] at hh;exact hh
   have C:Hid (∀ σ' ks w1,WK B be w0 ks {W with σ:=σ'} w1→w1.cell? ⟨B.bw,0,none⟩=some (.pointer (some ⟨be,0,none⟩))):=fun σ' ks w1 q=>(q.wcell 0 rfl).1
   have O1:Hid (∀ ks W1 w1 g,WK B be w0 (.obj g (.cells #[.bool lv,.bool true,.bool wt,zi a1,zi a2,zi a3,zu a4,zu (en:Int),zi a6] 38)::ks) W1 w1→w1.cell? ⟨g,1,none⟩=some (.bool true)∧w1.cell? ⟨g,7,none⟩=some (zu (en:Int))):=fun ks W1 w1 g q=>by
    have hb:=q.obj (List.mem_cons_self);exact⟨obj_cell hb 1 rfl,obj_cell hb 7 rfl⟩
   have b0:((s:Int)<0)=False:=by simp
   have b1:((7:Int)<(s:Int))=False:=by simp;omega
   have b2:(0:Int)≤(s:Int):=by omega
   have b3:(s:Int)<8:=by omega
   have b4:decide ((s:Int)<0)=false:=by simp
   have b5:decide ((7:Int)<(s:Int))=false:=by simp;omega
   have b6:(7<s)=False:=by simp;omega
   have n1:IntKind.i64.wrap ((lk:Int)+1)=(lk:Int)+1:=by rw[IntKind.wrap_i64];omega
   have c1:((lk:Int)+1<(lk1:Int))=False:=by simp;omega
   have c2:decide ((lk:Int)+1<(lk1:Int))=false:=by simp;omega
   have c3:((lk1:Int)<(lk:Int))=False:=by simp;omega
   have c4:decide ((lk1:Int)<(lk:Int))=false:=by simp;omega
   have c5:(lk1<lk)=False:=by simp;omega
   clear hkz;have T0:=zH h;have x0:=C.out W.σ _ _ T0.out;clear hst hst1 hlk hlk1 hl1 hl2 hl3 hbe h hs;go_enter Tryz.func22,Tryz.ntmps22;go_upto_region 11 with (first|(go_at_call 18;refine (N1.out _ _ T0.out).mono ?_;clear T0;rintro e w1 ⟨rfl,q⟩;have x1:=C.out W.σ _ _ (q.alloc (.cells #[.bool lv,.bool true,.bool wt,zi a1,zi a2,zi a3,zu a4,zu (en:Int),zi a6] 38));have T1:=zH (q.alloc (.cells #[.bool lv,.bool true,.bool wt,zi a1,zi a2,zi a3,zu a4,zu (en:Int),zi a6] 38));clear q)|(go_at_call 29;refine (N2.out _ _ T1.out).mono ?_;rintro e w' ⟨rfl,rfl⟩;have T2:=T1;clear T1)|(go_at_call 19;refine (N3.out _ _ T2.out).mono ?_;clear T2;rintro e w3 ⟨va,vc,rfl,q⟩;have q2:=q.alloc (.cells #[zi 1,zi 0,zi 0,.slice va 0 vc,zi 0,zi 0] 44);have x3:=C.out σ1 _ _ q2;obtain⟨y1,y2⟩:=O1.out _ _ _ _ q2.tail.tail;have T3:=zH q2;clear q q2)|(go_at_call 29;refine (N4.out _ _ T3.out).mono ?_;rintro e w' ⟨rfl,rfl⟩)|(go_at_call 18;refine (N5.out _ _ T3.out).mono ?_;clear T3;rintro e w6 ⟨rfl,q⟩;have q2:=q.alloc (.cells #[.bool zlv,.bool true,.bool false,zi za1,zi za2,zi za3,zu za4,zu (zen:Int),zi za6] 38);have T6:=zH q2;clear q q2))
   generalize hv6:w6.alloc _=v6 at*;generalize w1.heap.size=g1 at*;generalize w3.heap.size=g2 at*;generalize w6.heap.size=g3 at*;have x6:=C.out σ1 _ _ T6.out;have k3:=T6.out.obj List.mem_cons_self;have k2:=T6.out.tail.obj List.mem_cons_self;have k1:=T6.out.tail.tail.tail.obj List.mem_cons_self;have z30:=obj_cell k3 0 rfl;have z31:=obj_cell k3 1 rfl;have z32:=obj_cell k3 2 rfl;have z20:=obj_cell k2 0 rfl;have z21:=obj_cell k2 1 rfl;have z22:=obj_cell k2 2 rfl;have z23:=obj_cell k2 3 rfl;have z24:=obj_cell k2 4 rfl;have z25:=obj_cell k2 5 rfl;have z17:=obj_cell k1 7 rfl;clear k1 k2 k3 hv6 N1 N2 N3 N4 N5 C O1 b0 b1 b4 b5 b6 c1 c2 c3 c4 c5 n1;have HSR:=zH (fun w1 h1=>same_result 0 0 0 0 va none 0 vc 0 [] w1 h1 (row_nil w1 2));go_wp2_with (go_at_call 24;refine (HSR.out _ (T6.out.tail.tail.row List.mem_cons_self)).mono ?_;rintro e w9 ⟨rfl,hb⟩;have T9:=zH (T6.out.below hb);clear hb);go_ret;exact⟨rfl,[_,_,_,_],T9.out⟩
 · have N1:Hid (∀ ks w1,WK B be w0 ks W w1→Calls Tryz.prog 18 #[.pointer (some ⟨be,0,none⟩),zi (s:Int)] w1 fun e w'=>e=.returned (.agg #[.bool lv,.bool true,.bool wt,zi a1,zi a2,zi a3,zu a4,zu (en:Int),zi a6])∧WK B be w0 ks W w'):=fun ks w1 q=>by
    have hh:=status_wk q s hs;rw[hst] at hh;exact hh
   have N2:Hid (∀ ks w1,WK B be w0 ks W w1→Calls Tryz.prog 29 #[.pointer (some ⟨be,0,none⟩)] w1 fun e w'=>e=.returned (zi (lk:Int))∧w1=w'):=fun ks w1 q=>by
    have hh:=looks_wk q;rw[←hlk] at hh;exact hh
   have N3:Hid (∀ ks w1,WK B be w0 ks W w1→Calls Tryz.prog 19 #[.pointer (some ⟨be,0,none⟩),zi (s:Int)] w1 fun e w'=>∃ va vc,e=.returned (.tuple #[.agg #[zi 2,zi 0,zi 0,.slice va 0 vc,zi 0,zi 0],zi 0])∧WK B be w0 (.row 2 (.slice va 0 vc) (pairCs [])::ks) {W with σ:=σ1} w'):=fun ks w1 q=>by
    refine (step_wk q hs hbe).mono ?_;rintro e w' ⟨va,vn,vc,rfl,hvn,q⟩;subst hvn;rw[←hkz] at*;exact⟨va,vc,rfl,q⟩
   have N4:Hid (∀ ks w1,WK B be w0 ks {W with σ:=σ1} w1→Calls Tryz.prog 29 #[.pointer (some ⟨be,0,none⟩)] w1 fun e w'=>e=.returned (zi (lk1:Int))∧w1=w'):=fun ks w1 q=>by
    have hh:=looks_wk q;rw[←hlk1] at hh;exact hh
   have N5:Hid (∀ ks w1,WK B be w0 ks {W with σ:=σ1} w1→Calls Tryz.prog 18 #[.pointer (some ⟨be,0,none⟩),zi (s:Int)] w1 fun e w'=>e=.returned (.agg #[.bool zlv,.bool true,.bool true,zi za1,zi za2,zi za3,zu za4,zu (zen:Int),zi za6])∧WK B be w0 ks {W with σ:=σ1} w'):=fun ks w1 q=>by
    have hh:=status_wk q s hs;rw[hst1] at hh;exact hh
   have C:Hid (∀ σ' ks w1,WK B be w0 ks {W with σ:=σ'} w1→w1.cell? ⟨B.bw,0,none⟩=some (.pointer (some ⟨be,0,none⟩))):=fun σ' ks w1 q=>(q.wcell 0 rfl).1
   have O1:Hid (∀ ks W1 w1 g,WK B be w0 (.obj g (.cells #[.bool lv,.bool true,.bool wt,zi a1,zi a2,zi a3,zu a4,zu (en:Int),zi a6] 38)::ks) W1 w1→w1.cell? ⟨g,1,none⟩=some (.bool true)∧w1.cell? ⟨g,7,none⟩=some (zu (en:Int))):=fun ks W1 w1 g q=>by
    have hb:=q.obj (List.mem_cons_self);exact⟨obj_cell hb 1 rfl,obj_cell hb 7 rfl⟩
   have b0:((s:Int)<0)=False:=by simp
   have b1:((7:Int)<(s:Int))=False:=by simp;omega
   have b2:(0:Int)≤(s:Int):=by omega
   have b3:(s:Int)<8:=by omega
   have b4:decide ((s:Int)<0)=false:=by simp
   have b5:decide ((7:Int)<(s:Int))=false:=by simp;omega
   have b6:(7<s)=False:=by simp;omega
   have n1:IntKind.i64.wrap ((lk:Int)+1)=(lk:Int)+1:=by rw[IntKind.wrap_i64];omega
   have c1:((lk:Int)+1<(lk1:Int))=False:=by simp;omega
   have c2:decide ((lk:Int)+1<(lk1:Int))=false:=by simp;omega
   have c3:((lk1:Int)<(lk:Int))=False:=by simp;omega
   have c4:decide ((lk1:Int)<(lk:Int))=false:=by simp;omega
   have c5:(lk1<lk)=False:=by simp;omega
   clear hkz;have T0:=zH h;have x0:=C.out W.σ _ _ T0.out;clear hst hst1 hlk hlk1 hl1 hl2 hl3 hbe h hs;go_enter Tryz.func22,Tryz.ntmps22;go_upto_region 11 with (first|(go_at_call 18;refine (N1.out _ _ T0.out).mono ?_;clear T0;rintro e w1 ⟨rfl,q⟩;have x1:=C.out W.σ _ _ (q.alloc (.cells #[.bool lv,.bool true,.bool wt,zi a1,zi a2,zi a3,zu a4,zu (en:Int),zi a6] 38));have T1:=zH (q.alloc (.cells #[.bool lv,.bool true,.bool wt,zi a1,zi a2,zi a3,zu a4,zu (en:Int),zi a6] 38));clear q)|(go_at_call 29;refine (N2.out _ _ T1.out).mono ?_;rintro e w' ⟨rfl,rfl⟩;have T2:=T1;clear T1)|(go_at_call 19;refine (N3.out _ _ T2.out).mono ?_;clear T2;rintro e w3 ⟨va,vc,rfl,q⟩;have q2:=q.alloc (.cells #[zi 2,zi 0,zi 0,.slice va 0 vc,zi 0,zi 0] 44);have x3:=C.out σ1 _ _ q2;obtain⟨y1,y2⟩:=O1.out _ _ _ _ q2.tail.tail;have T3:=zH q2;clear q q2)|(go_at_call 29;refine (N4.out _ _ T3.out).mono ?_;rintro e w' ⟨rfl,rfl⟩)|(go_at_call 18;refine (N5.out _ _ T3.out).mono ?_;clear T3;rintro e w6 ⟨rfl,q⟩;have q2:=q.alloc (.cells #[.bool zlv,.bool true,.bool true,zi za1,zi za2,zi za3,zu za4,zu (zen:Int),zi za6] 38);have T6:=zH q2;clear q q2))
   generalize hv6:w6.alloc _=v6 at*;generalize w1.heap.size=g1 at*;generalize w3.heap.size=g2 at*;generalize w6.heap.size=g3 at*;have x6:=C.out σ1 _ _ T6.out;have k3:=T6.out.obj List.mem_cons_self;have k2:=T6.out.tail.obj List.mem_cons_self;have k1:=T6.out.tail.tail.tail.obj List.mem_cons_self;have z30:=obj_cell k3 0 rfl;have z31:=obj_cell k3 1 rfl;have z32:=obj_cell k3 2 rfl;have z20:=obj_cell k2 0 rfl;have z21:=obj_cell k2 1 rfl;have z22:=obj_cell k2 2 rfl;have z23:=obj_cell k2 3 rfl;have z24:=obj_cell k2 4 rfl;have z25:=obj_cell k2 5 rfl;have z17:=obj_cell k1 7 rfl;clear k1 k2 k3 hv6 N1 N2 N3 N4 N5 C O1 b0 b1 b4 b5 b6 c1 c2 c3 c4 c5 n1;have HSR:=zH (fun w1 h1=>same_result 0 0 0 0 va none 0 vc 0 [] w1 h1 (row_nil w1 2));go_wp2_with (go_at_call 24;refine (HSR.out _ (T6.out.tail.tail.row List.mem_cons_self)).mono ?_;rintro e w9 ⟨rfl,hb⟩;have T9:=zH (T6.out.below hb);clear hb);go_ret;exact⟨rfl,[_,_,_,_],T9.out⟩
theorem cell_alloc_keep {w:World} {o:Obj} {a:Addr} {v:Value} (h:w.cell? a=some v):(w.alloc o).cell? a=some v:=by
 rw[World.cell?_alloc_some _ _ _ (by rw[h];rfl)];exact h
theorem cell_set_keep {w:World} {a p:Addr} {u v:Value} (hn:p.block≠a.block) (h:w.cell? a=some v):(w.setCell p u).cell? a=some v:=by
 rw[World.cell?_setCell_far _ _ _ _ hn];exact h
theorem infoCall:(Tryz.prog.info? 57).map (fun i=>(i.zero,i.size,i.bytes))=some (some (.agg #[zi 0,zi 0,zi 0,zi 0,zi 0,zi 0,.slice none 0 0,zi 0,zi 0]),9,88):=by kernel_rfl
theorem WK.keptNo {B:WBook} {be:Nat} {w0 w:World} {ks:List Kept} {W:Wd} (h:WK B be w0 ks W w) {g:Nat} {ob:Obj} (hm:Kept.obj g ob∈ks):B.M g=none:=by
 obtain⟨A,rfl,l,r,g0,t⟩:=h.ex;have:Fix A.L w g ob:=by
  clear h l r g0
  induction ks with
  |nil=>cases hm
  |cons x ks ih=>
   rcases List.mem_cons.1 hm with rfl|hm
   · exact t.1
   · exact ih hm t.2
 cases hb:B.M g with
 |none=>rfl
 |some q=>have:=(r.tie g q hb).symm.trans this.1;cases this
theorem wstep_op {B:WBook} {be:Nat} {w0 w:World} {ks:List Kept} {W:Wd} (h:WK B be w0 ks W w) {s:Nat} (hs:s<8) {σ1:St} {r:Res} (hbe:oneStep W.σ s=some (σ1,3,r)) (hbz:(W.σ.status s).busy=true) (hl1:σ1.looks≤W.σ.looks+1) (hl2:W.σ.looks≤σ1.looks) (hl3:W.σ.looks<1000000000000000) (hov:r.over=0) {k:Nat} (hid:W.ids.getD s 0=k+1) {p:Dl} (hp:W.deals[k]? =some p) (hpl:p.ops.length<100000) (hdl:W.deals.length<100000) (hnl:(σ1.status s).live=true) (hnb:(σ1.status s).busy=false):
 Calls Tryz.prog 22 #[.pointer (some ⟨B.bw,0,none⟩),zi (s:Int)] w fun e w'=>e=.returned (.bool true)∧∃ ks' B',B'.bw=B.bw∧WK B' be w0 (ks'++ks) {W with σ:=σ1,deals:=W.deals.set k {p with ops:=p.ops++[(W.ops.getD s default,r)]}} w':=by
 obtain⟨ii,hii,hz0,hz1,hz2⟩:=info_parts infoCall;obtain⟨lv,wt,a1,a2,a3,a4,en,a6,hst,hen⟩:∃ lv wt a1 a2 a3 a4,∃ en:Nat,∃ a6,statusCs (W.σ.status s)=#[.bool lv,.bool true,.bool wt,zi a1,zi a2,zi a3,zu a4,zu (en:Int),zi a6]∧en=(W.σ.status s).end_:=by
  refine⟨(W.σ.status s).live,(W.σ.status s).waits,((W.σ.status s).id:Int),((W.σ.status s).level:Int),((W.σ.status s).state:Int),((W.σ.status s).begin_:Int),(W.σ.status s).end_,((W.σ.status s).ops:Int),?_,rfl⟩;unfold statusCs;rw[hbz]
 obtain⟨lk,hlk⟩:∃ lk,lk=W.σ.looks:=⟨_,rfl⟩
 obtain⟨lk1,hlk1⟩:∃ lk1,lk1=σ1.looks:=⟨_,rfl⟩
 rw[←hlk] at hl1 hl2 hl3;rw[←hlk1] at hl1 hl2;obtain⟨zwt,za1,za2,za3,za4,zen,za6,hst1⟩:∃ zwt za1 za2 za3 za4,∃ zen:Nat,∃ za6,statusCs (σ1.status s)=#[.bool true,.bool false,.bool zwt,zi za1,zi za2,zi za3,zu za4,zu (zen:Int),zi za6]:=by
  refine⟨(σ1.status s).waits,((σ1.status s).id:Int),((σ1.status s).level:Int),((σ1.status s).state:Int),((σ1.status s).begin_:Int),(σ1.status s).end_,((σ1.status s).ops:Int),?_⟩;unfold statusCs;rw[hnl,hnb]
 clear hnl hnb hbz hen;obtain⟨o,ho⟩:∃ o,o=W.ops.getD s default:=⟨_,rfl⟩
 rw[←ho];have hl:=h.dl;have hln:=h.dlen;obtain⟨⟨pd,pv⟩,hk,hpd⟩:∃ q,B.ds[k]? =some q∧q.1=p:=by
  rw[←hl,List.getElem?_map] at hp
  cases hq:B.ds[k]? with
  |none=>rw[hq] at hp;cases hp
  |some q=>rw[hq] at hp;exact⟨q,rfl,Option.some.inj hp⟩
 obtain rfl:pd=p:=hpd;obtain⟨on,hon⟩:∃ on,on=pd.ops.length:=⟨_,rfl⟩
 have hrow:w.ownsRow 0 57 9 pv pd.ops.length (B.cs k):=(h.opsRow hk).1;rw[←hon] at hrow hpl;obtain⟨oa,oc,rfl,_⟩:=Ow.own_form hrow;clear hrow;obtain⟨gd,cap,hvd,hc1,hc2,hgm,_⟩:=h.deal hk;have hkl:k<W.deals.length:=(List.getElem?_eq_some_iff.1 hp).1;obtain⟨n,hn⟩:∃ n,n=W.deals.length:=⟨_,rfl⟩
 rw[hln,←hn] at hvd hc1;have E:Hid (∀ ks w1,WK B be w0 ks {W with σ:=σ1} w1→w1.cell? ⟨B.bw,1,none⟩=some (.slice (some ⟨gd,0,none⟩) n cap)∧w1.cell? ⟨B.bw,2+s,none⟩=some (zi ((k:Int)+1))∧w1.cell? ⟨gd,k*6+5,none⟩=some (.slice oa on oc)∧w1.cell? ⟨B.bw,10+s*4,none⟩=some (zi (o.kind:Int))∧w1.cell? ⟨B.bw,10+s*4+1,none⟩=some (zi (o.key:Int))∧w1.cell? ⟨B.bw,10+s*4+2,none⟩=some (zi (o.hi:Int))∧w1.cell? ⟨B.bw,10+s*4+3,none⟩=some (zi (o.value:Int))):=fun ks w1 q=>by
  have y1:=(q.wcell 1 rfl).1;have y2:=(q.wcell (2+s) (worldCs_id (W:={W with σ:=σ1}) q.i8 hs)).1;rw[hvd] at y1;rw[show ({W with σ:=σ1}:Wd).ids.getD s 0=k+1 from hid] at y2;obtain⟨gd',cap',hv',_,_,_,hf⟩:=q.deal hk;rw[hln,←hn,hvd] at hv';simp only[Value.slice.injEq,Option.some.injEq,Addr.mk.injEq,and_true,true_and] at hv';obtain⟨rfl,rfl⟩:=hv';have y5:=(hf 5 (.slice oa on oc) (by omega) rfl).1;have yo:∀ j (v:Value),j<4→(opC o)[j]? =some v→w1.cell? ⟨B.bw,10+(s*4+j),none⟩=some v:=fun j v hj hv=>(q.wcell _ ((worldCs_op q.i8 q.o8 hs hj).trans (by rw[show ({W with σ:=σ1}:Wd).ops.getD s default=o from ho.symm];exact hv))).1
  exact⟨y1,y2,y5,yo 0 _ (by omega) rfl,yo 1 _ (by omega) rfl,yo 2 _ (by omega) rfl,yo 3 _ (by omega) rfl⟩
 have HAD1 : Hid (∀ ks w1 va vn vc, WK B be w0 ks { W with σ := σ1 } w1 → Kept.row 2 (.slice va vn vc) (pairCs r.pairs) ∈ ks → ∀ w2 v' w', Below w1.heap.size w1 w2 → w'.ownsRow 0 57 9 v' (on + 1) (B.cs k ++ [zi (o.kind : Int), zi (o.key : Int), zi (o.hi : Int), zi (o.value : Int), zi (r.e : Int), zi (r.value : Int), .slice va vn vc, zi 0, zi (r.reason : Int)]) → w2.grownBy w' (Value.slice oa on oc).ownBlock → (v'.ownBlock = (Value.slice oa on oc).ownBlock ∨ ∀ g, v'.ownBlock = some g → w2.heap.size ≤ g) →
     w'.cell? ⟨gd,k*6+5,none⟩=some (.slice oa on oc)∧w'.frozen? ⟨gd,k*6+5,none⟩=false∧(∀ a v,a.block<w1.heap.size→(Value.slice oa on oc).ownBlock≠some a.block→w1.cell? a=some v→w'.cell? a=some v)∧
     ∃ B',B'.bw=B.bw∧WK B' be w0 ks {W with σ:=σ1,deals:=W.deals.set k {pd with ops:=pd.ops++[(o,r)]}} (w'.setCell ⟨gd,k*6+5,none⟩ v')):=fun ks w1 va vn vc q hm w2 v' w' hb ho hg h3=>by
  have ho':w'.ownsRow 0 57 9 v' (pd.ops.length+1) (B.cs k++callsC o r (.slice va vn vc)):=by
   rw[←hon];unfold callsC opC;rw[hov];exact ho
  have hvd':=hvd;rw[hn,←hln] at hvd';exact q.addOp hk o r _ hm hb ho' hg h3 hvd'
 have HOR1:Hid (∀ ks w1,WK B be w0 ks {W with σ:=σ1} w1→w1.ownsRow 0 57 9 (.slice oa on oc) on (B.cs k)∧on<100000):=fun ks w1 q=>⟨by have:=(q.opsRow hk).1;rw[←hon] at this;exact this,hpl⟩
 have HNE:Hid (∀ ks w1 g ob,WK B be w0 ks {W with σ:=σ1} w1→Kept.obj g ob∈ks→(gd≠B.bw∧gd≠g∧(Value.slice oa on oc).ownBlock≠some B.bw∧(Value.slice oa on oc).ownBlock≠some g)∧B.bw<w1.heap.size∧g<w1.heap.size):=fun ks w1 g ob q hm=>by
  obtain⟨A,rfl,l,r',g0,t⟩:=q.ex;have hbw:B.M B.bw=some .eng:=(r'.mem.all .eng).1;have hno:=q.keptNo hm;refine⟨⟨fun e=>?_,fun e=>?_,fun e=>?_,fun e=>?_⟩,r'.lt hbw,lt_of (q.obj hm)⟩
  · rw[e,hbw] at hgm;cases hgm
  · rw[e,hno] at hgm;cases hgm
  · have:=(q.opsRow hk).2 _ e;rw[hbw] at this;cases this
  · have:=(q.opsRow hk).2 _ e;rw[hno] at this;cases this
 clear hc1 hc2;have m2:((k:Int)<0)=False:=by simp
 have m3:decide ((k:Int)<0)=false:=by simp
 have m4:((n:Int)≤(k:Int))=False:=by simp;omega
 have m5:decide ((n:Int)≤(k:Int))=false:=by simp;omega
 have m6:(n≤k)=False:=by simp;omega
 have m7:(k:Int)<(n:Int):=by omega
 have m8:(0:Int)≤(k:Int):=by omega
 have m9:k<n:=by omega
 have kb:k<100000:=by omega
 have m1:IntKind.i64.wrap (k:Int)=(k:Int):=by rw[IntKind.wrap_i64];omega
 clear hid hp hpl hdl hl hln hk hvd hgm hkl hn hon ho;have N1:Hid (∀ ks w1,WK B be w0 ks W w1→Calls Tryz.prog 18 #[.pointer (some ⟨be,0,none⟩),zi (s:Int)] w1 fun e w'=>e=.returned (.agg #[.bool lv,.bool true,.bool wt,zi a1,zi a2,zi a3,zu a4,zu (en:Int),zi a6])∧WK B be w0 ks W w'):=fun ks w1 q=>by
  have hh:=status_wk q s hs;rw[hst] at hh;exact hh
 have N2:Hid (∀ ks w1,WK B be w0 ks W w1→Calls Tryz.prog 29 #[.pointer (some ⟨be,0,none⟩)] w1 fun e w'=>e=.returned (zi (lk:Int))∧w1=w'):=fun ks w1 q=>by
  have hh:=looks_wk q;rw[←hlk] at hh;exact hh
 have N3:Hid (∀ ks w1,WK B be w0 ks W w1→Calls Tryz.prog 19 #[.pointer (some ⟨be,0,none⟩),zi (s:Int)] w1 fun e w'=>∃ va vn vc,e=.returned (.tuple #[.agg #[zi 3,zi (r.e:Int),zi (r.value:Int),.slice va vn vc,zi 0,zi (r.reason:Int)],zi 0])∧WK B be w0 (.row 2 (.slice va vn vc) (pairCs r.pairs)::ks) {W with σ:=σ1} w'):=fun ks w1 q=>by
  refine (step_wk q hs hbe).mono ?_;rintro e w' ⟨va,vn,vc,rfl,hvn,q⟩;rw[hov];exact⟨va,vn,vc,rfl,q⟩
 have N4:Hid (∀ ks w1,WK B be w0 ks {W with σ:=σ1} w1→Calls Tryz.prog 29 #[.pointer (some ⟨be,0,none⟩)] w1 fun e w'=>e=.returned (zi (lk1:Int))∧w1=w'):=fun ks w1 q=>by
  have hh:=looks_wk q;rw[←hlk1] at hh;exact hh
 have N5:Hid (∀ ks w1,WK B be w0 ks {W with σ:=σ1} w1→Calls Tryz.prog 18 #[.pointer (some ⟨be,0,none⟩),zi (s:Int)] w1 fun e w'=>e=.returned (.agg #[.bool true,.bool false,.bool zwt,zi za1,zi za2,zi za3,zu za4,zu (zen:Int),zi za6])∧WK B be w0 ks {W with σ:=σ1} w'):=fun ks w1 q=>by
  have hh:=status_wk q s hs;rw[hst1] at hh;exact hh
 have C:Hid (∀ σ' ks w1,WK B be w0 ks {W with σ:=σ'} w1→w1.cell? ⟨B.bw,0,none⟩=some (.pointer (some ⟨be,0,none⟩))):=fun σ' ks w1 q=>(q.wcell 0 rfl).1
 have O1:Hid (∀ ks W1 w1 g,WK B be w0 (.obj g (.cells #[.bool lv,.bool true,.bool wt,zi a1,zi a2,zi a3,zu a4,zu (en:Int),zi a6] 38)::ks) W1 w1→w1.cell? ⟨g,1,none⟩=some (.bool true)∧w1.cell? ⟨g,7,none⟩=some (zu (en:Int))):=fun ks W1 w1 g q=>by
  have hb:=q.obj (List.mem_cons_self);exact⟨obj_cell hb 1 rfl,obj_cell hb 7 rfl⟩
 have b0:((s:Int)<0)=False:=by simp
 have b1:((7:Int)<(s:Int))=False:=by simp;omega
 have b2:(0:Int)≤(s:Int):=by omega
 have b3:(s:Int)<8:=by omega
 have b4:decide ((s:Int)<0)=false:=by simp
 have b5:decide ((7:Int)<(s:Int))=false:=by simp;omega
 have b6:(7<s)=False:=by simp;omega
 have n1:IntKind.i64.wrap ((lk:Int)+1)=(lk:Int)+1:=by rw[IntKind.wrap_i64];omega
 have c1:((lk:Int)+1<(lk1:Int))=False:=by simp;omega
 have c2:decide ((lk:Int)+1<(lk1:Int))=false:=by simp;omega
 have c3:((lk1:Int)<(lk:Int))=False:=by simp;omega
 have c4:decide ((lk1:Int)<(lk:Int))=false:=by simp;omega
 have c5:(lk1<lk)=False:=by simp;omega
 have m0:wrap64 (k:Int)=(k:Int):=by unfold wrap64;omega
 clear kb;have T0:=zH h;have x0:=C.out W.σ _ _ T0.out;clear hst hst1 hlk hlk1 hl1 hl2 hl3 hbe h hs hov;go_enter Tryz.func22,Tryz.ntmps22;go_upto_region 11 with (first|(go_at_call 18;refine (N1.out _ _ T0.out).mono ?_;clear T0;rintro e w1 ⟨rfl,q⟩;have x1:=C.out W.σ _ _ (q.alloc (.cells #[.bool lv,.bool true,.bool wt,zi a1,zi a2,zi a3,zu a4,zu (en:Int),zi a6] 38));have T1:=zH (q.alloc (.cells #[.bool lv,.bool true,.bool wt,zi a1,zi a2,zi a3,zu a4,zu (en:Int),zi a6] 38));clear q)|(go_at_call 29;refine (N2.out _ _ T1.out).mono ?_;rintro e w' ⟨rfl,rfl⟩;have T2:=T1;clear T1)|(go_at_call 19;refine (N3.out _ _ T2.out).mono ?_;clear T2;rintro e w3 ⟨va,vn,vc,rfl,q⟩;have q2:=q.alloc (.cells #[zi 3,zi (r.e:Int),zi (r.value:Int),.slice va vn vc,zi 0,zi (r.reason:Int)] 44);have x3:=C.out σ1 _ _ q2;obtain⟨y1,y2⟩:=O1.out _ _ _ _ q2.tail.tail;have T3:=zH q2;clear q q2)|(go_at_call 29;refine (N4.out _ _ T3.out).mono ?_;rintro e w' ⟨rfl,rfl⟩)|(go_at_call 18;refine (N5.out _ _ T3.out).mono ?_;clear T3;rintro e w6 ⟨rfl,q⟩;have q2:=q.alloc (.cells #[.bool true,.bool false,.bool zwt,zi za1,zi za2,zi za3,zu za4,zu (zen:Int),zi za6] 38);have T6:=zH q2;clear q q2))
 generalize hv6:w6.alloc _=v6 at*;generalize w1.heap.size=g1 at*;generalize w3.heap.size=g2 at*;generalize w6.heap.size=g3 at*;have x6:=C.out σ1 _ _ T6.out;have k3:=T6.out.obj List.mem_cons_self;have k2:=T6.out.tail.obj List.mem_cons_self;have k1:=T6.out.tail.tail.tail.obj List.mem_cons_self;have z30:=obj_cell k3 0 rfl;have z31:=obj_cell k3 1 rfl;have z32:=obj_cell k3 2 rfl;have z20:=obj_cell k2 0 rfl;have z21:=obj_cell k2 1 rfl;have z22:=obj_cell k2 2 rfl;have z23:=obj_cell k2 3 rfl;have z24:=obj_cell k2 4 rfl;have z25:=obj_cell k2 5 rfl;have z17:=obj_cell k1 7 rfl;clear k1 k2 k3 hv6 N1 N2 N3 N4 N5 C O1 b0 b1 b4 b5 b6 c1 c2 c3 c4 c5 n1;obtain⟨y1,y2,y5,y6,y7,y8,y9⟩:=E.out _ _ T6.out;go_upto_region 18 with fail
 have S0:v6.drew.cell? ⟨B.bw,1,none⟩=some (.slice (some ⟨gd,0,none⟩) n cap)∧v6.drew.cell? ⟨B.bw,10+s*4,none⟩=some (zi (o.kind:Int))∧v6.drew.cell? ⟨B.bw,10+s*4+1,none⟩=some (zi (o.key:Int))∧v6.drew.cell? ⟨B.bw,10+s*4+2,none⟩=some (zi (o.hi:Int))∧v6.drew.cell? ⟨B.bw,10+s*4+3,none⟩=some (zi (o.value:Int))∧v6.drew.cell? ⟨g2,1,none⟩=some (zi (r.e:Int))∧v6.drew.cell? ⟨g2,2,none⟩=some (zi (r.value:Int))∧v6.drew.cell? ⟨g2,3,none⟩=some (.slice va vn vc)∧v6.drew.cell? ⟨g2,4,none⟩=some (zi 0)∧v6.drew.cell? ⟨g2,5,none⟩=some (zi (r.reason:Int)):=⟨y1,y6,y7,y8,y9,z21,z22,z23,z24,z25⟩
 have T7:=zH T6.out.drew;have HOR:=zH (HOR1.out _ _ (T7.out.alloc (.cells #[zi (o.kind:Int),zi (o.key:Int),zi (o.hi:Int),zi (o.value:Int),zi (r.e:Int),zi (r.value:Int),.slice va vn vc,zi 0,zi (r.reason:Int)] 57)));have HAD:=zH (fun v' w'=>HAD1.out _ _ va vn vc T7.out (List.mem_cons_of_mem _ (List.mem_cons_of_mem _ List.mem_cons_self)) (v6.drew.alloc (.cells #[zi (o.kind:Int),zi (o.key:Int),zi (o.hi:Int),zi (o.value:Int),zi (r.e:Int),zi (r.value:Int),.slice va vn vc,zi 0,zi (r.reason:Int)] 57)) v' w' ((Below.refl _ _).alloc (Nat.le_refl _) _));obtain⟨e1,e2,e3⟩:=HNE.out _ _ g2 _ T7.out (List.mem_cons_of_mem _ List.mem_cons_self);have GN:=zH e1;have GL:=zH (zA e2 e3);clear e1 e2 e3 HNE HAD1 HOR1 T6 z20 z21 z22 z23 z24 z25 z17 z30 z31 z32 y1 y2 y5 y6 y7 y8 y9 x6 m1 m0;have y5:v6.drew.cell? ⟨gd,k*6+5,none⟩=some (.slice oa on oc):=(E.out _ _ T7.out).2.2.1;have y5a:∀ ob,(v6.drew.alloc ob).cell? ⟨gd,k*6+5,none⟩=some (.slice oa on oc):=fun ob=>cell_alloc_keep y5
 clear E;refine wp_region_held_drew (S:=fun w'=>w'.cell? ⟨B.bw,1,none⟩=some (.slice (some ⟨gd,0,none⟩) n cap)∧w'.cell? ⟨B.bw,10+s*4,none⟩=some (zi (o.kind:Int))∧w'.cell? ⟨B.bw,10+s*4+1,none⟩=some (zi (o.key:Int))∧w'.cell? ⟨B.bw,10+s*4+2,none⟩=some (zi (o.hi:Int))∧w'.cell? ⟨B.bw,10+s*4+3,none⟩=some (zi (o.value:Int))∧w'.cell? ⟨g2,1,none⟩=some (zi (r.e:Int))∧w'.cell? ⟨g2,2,none⟩=some (zi (r.value:Int))∧w'.cell? ⟨g2,3,none⟩=some (.slice va vn vc)∧w'.cell? ⟨g2,4,none⟩=some (zi 0)∧w'.cell? ⟨g2,5,none⟩=some (zi (r.reason:Int))) (by kernel_rfl) ?_ (fun hHeld=>?_)
 · (try dsimp only);exact S0
 generalize v6.drew=vd at*;refine zqt (i:=0) (v:=?_) rfl (by kernel_rfl) (fun _ _ _ h=>h) (Or.inl ⟨by rfl,?_⟩) hHeld ?_;rotate_left
 · (intro w hSw;(try dsimp only at hSw);go_simp;(try with_reducible rfl))
 (try simp only[zqa,zqb,zqc,Act.put,zqd,zqe,zqf])
 refine zqt (i:=1) (v:=?_) rfl (by kernel_rfl) (fun _ _ _ h=>h) (Or.inl ⟨by rfl,?_⟩) hHeld ?_;rotate_left
 · (intro w hSw;(try dsimp only at hSw);go_simp;(try with_reducible rfl))
 (try simp only[zqa,zqb,zqc,Act.put,zqd,zqe,zqf])
 refine zqt (i:=2) (v:=?_) rfl (by kernel_rfl) (fun _ _ _ h=>h) (Or.inl ⟨by rfl,?_⟩) hHeld ?_;rotate_left
 · (intro w hSw;(try dsimp only at hSw);go_simp;(try with_reducible rfl))
 (try simp only[zqa,zqb,zqc,Act.put,zqd,zqe,zqf])
 refine zqt (i:=3) (v:=?_) rfl (by kernel_rfl) (fun _ _ _ h=>h) (Or.inl ⟨by rfl,?_⟩) hHeld ?_;rotate_left
 · (intro w hSw;(try dsimp only at hSw);go_simp;(try with_reducible rfl))
 (try simp only[zqa,zqb,zqc,Act.put,zqd,zqe,zqf])
 refine zqt (i:=4) (v:=?_) rfl (by kernel_rfl) (fun _ _ _ h=>h) (Or.inl ⟨by rfl,?_⟩) hHeld ?_;rotate_left
 · (intro w hSw;(try dsimp only at hSw);go_simp;(try with_reducible rfl))
 (try simp only[zqa,zqb,zqc,Act.put,zqd,zqe,zqf])
 refine zqt (i:=5) (v:=?_) rfl (by kernel_rfl) (fun _ _ _ h=>h) (Or.inl ⟨by rfl,?_⟩) hHeld ?_;rotate_left
 · (intro w hSw;(try dsimp only at hSw);go_simp;(try with_reducible rfl))
 (try simp only[zqa,zqb,zqc,Act.put,zqd,zqe,zqf])
 refine zqt (i:=6) (v:=?_) rfl (by kernel_rfl) (fun _ _ _ h=>h) (Or.inl ⟨by rfl,?_⟩) hHeld ?_;rotate_left
 · (intro w hSw;(try dsimp only at hSw);go_simp;(try with_reducible rfl))
 (try simp only[zqa,zqb,zqc,Act.put,zqd,zqe,zqf])
 refine zqt (i:=7) (v:=?_) rfl (by kernel_rfl) (fun _ _ _ h=>h) (Or.inl ⟨by rfl,?_⟩) hHeld ?_;rotate_left
 · (intro w hSw;(try dsimp only at hSw);go_simp;(try with_reducible rfl))
 (try simp only[zqa,zqb,zqc,Act.put,zqd,zqe,zqf])
 refine zqt (i:=8) (v:=?_) rfl (by kernel_rfl) (fun _ _ _ h=>h) (Or.inl ⟨by rfl,?_⟩) hHeld ?_;rotate_left
 · (intro w hSw;(try dsimp only at hSw);go_simp;(try with_reducible rfl))
 (try simp only[zqa,zqb,zqc,Act.put,zqd,zqe,zqf])
 refine zqt (i:=9) (v:=?_) rfl (by kernel_rfl) (fun _ _ _ h=>h) (Or.inl ⟨by rfl,?_⟩) hHeld ?_;rotate_left
 · (intro w hSw;(try dsimp only at hSw);go_simp;(try with_reducible rfl))
 (try simp only[zqa,zqb,zqc,Act.put,zqd,zqe,zqf])
 refine zqt (i:=10) (v:=?_) rfl (by kernel_rfl) (fun _ _ _ h=>h) (Or.inl ⟨by rfl,?_⟩) hHeld ?_;rotate_left
 · (intro w hSw;(try dsimp only at hSw);go_simp;(try with_reducible rfl))
 (try simp only[zqa,zqb,zqc,Act.put,zqd,zqe,zqf])
 refine zqt (i:=11) (v:=?_) rfl (by kernel_rfl) (fun _ _ _ h=>h) (Or.inl ⟨by rfl,?_⟩) hHeld ?_;rotate_left
 · (intro w hSw;(try dsimp only at hSw);go_simp;(try with_reducible rfl))
 (try simp only[zqa,zqb,zqc,Act.put,zqd,zqe,zqf])
 refine zqt (i:=13) (v:=?_) rfl (by kernel_rfl) (fun _ _ _ h=>h) (Or.inl ⟨by rfl,?_⟩) hHeld ?_;rotate_left
 · (intro w hSw;(try dsimp only at hSw);go_simp;(try with_reducible rfl))
 (try simp only[zqa,zqb,zqc,Act.put,zqd,zqe,zqf])
 refine zqt (i:=14) (v:=?_) rfl (by kernel_rfl) (fun _ _ _ h=>h) (Or.inl ⟨by rfl,?_⟩) hHeld ?_;rotate_left
 · (intro w hSw;(try dsimp only at hSw);go_simp;(try with_reducible rfl))
 (try simp only[zqa,zqb,zqc,Act.put,zqd,zqe,zqf])
 refine zqt (i:=15) (v:=?_) rfl (by kernel_rfl) (fun _ _ _ h=>h) (Or.inl ⟨by rfl,?_⟩) hHeld ?_;rotate_left
 · (intro w hSw;(try dsimp only at hSw);go_simp;(try with_reducible rfl))
 (try simp only[zqa,zqb,zqc,Act.put,zqd,zqe,zqf])
 refine zqt (i:=16) (v:=?_) rfl (by kernel_rfl) (fun _ _ _ h=>h) (Or.inl ⟨by rfl,?_⟩) hHeld ?_;rotate_left
 · (intro w hSw;(try dsimp only at hSw);go_simp;(try with_reducible rfl))
 (try simp only[zqa,zqb,zqc,Act.put,zqd,zqe,zqf])
 refine zqt (i:=17) (v:=?_) rfl (by kernel_rfl) (fun _ _ _ h=>h) (Or.inl ⟨by rfl,?_⟩) hHeld ?_;rotate_left
 · (intro w hSw;(try dsimp only at hSw);go_simp;(try with_reducible rfl))
 (try simp only[zqa,zqb,zqc,Act.put,zqd,zqe,zqf])
 refine zqt (i:=18) (v:=?_) rfl (by kernel_rfl) (fun _ _ _ h=>h) (Or.inl ⟨by rfl,?_⟩) hHeld ?_;rotate_left
 · (intro w hSw;(try dsimp only at hSw);go_simp;(try with_reducible rfl))
 (try simp only[zqa,zqb,zqc,Act.put,zqd,zqe,zqf])
 refine zqt (i:=19) (v:=?_) rfl (by kernel_rfl) (fun _ _ _ h=>h) (Or.inl ⟨by rfl,?_⟩) hHeld ?_;rotate_left
 · (intro w hSw;(try dsimp only at hSw);go_simp;(try with_reducible rfl))
 (try simp only[zqa,zqb,zqc,Act.put,zqd,zqe,zqf])
 refine zqt (i:=20) (v:=?_) rfl (by kernel_rfl) (fun _ _ _ h=>h) (Or.inl ⟨by rfl,?_⟩) hHeld ?_;rotate_left
 · (intro w hSw;(try dsimp only at hSw);go_simp;(try with_reducible rfl))
 (try simp only[zqa,zqb,zqc,Act.put,zqd,zqe,zqf])
 refine zqt (i:=21) (v:=?_) rfl (by kernel_rfl) (fun _ _ _ h=>h) (Or.inl ⟨by rfl,?_⟩) hHeld ?_;rotate_left
 · (intro w hSw;(try dsimp only at hSw);go_simp;(try with_reducible rfl))
 (try simp only[zqa,zqb,zqc,Act.put,zqd,zqe,zqf])
 refine wpAnyH_ready (rs:=[12,22]) (by kernel_rfl) (by simp) ?_;refine AllReadyH.cons (o:=_) rfl (fun K hK=>?_) (AllReadyH.cons (o:=_) rfl (fun K hK=>?_) AllReadyH.nil)
 focus (
  go_simp
  refine hK.out _ _ ?_ (fun hHeld=>?_)
  · (try dsimp only);exact hHeld
  clear hK K
  (try simp only[zqa,zqb,zqc,Act.put,zqd,zqe,zqf])
  refine wpAnyH_ready (rs:=[22]) (by kernel_rfl) (by simp) ?_
  refine AllReadyH.cons (o:=_) rfl (fun K hK=>?_) AllReadyH.nil
  go_simp
  refine hK.out _ _ ?_ (fun hHeld=>?_)
  · (try dsimp only);exact⟨cell_alloc_keep hHeld.1,cell_alloc_keep hHeld.2.1,cell_alloc_keep hHeld.2.2.1,cell_alloc_keep hHeld.2.2.2.1,cell_alloc_keep hHeld.2.2.2.2.1,cell_alloc_keep hHeld.2.2.2.2.2.1,cell_alloc_keep hHeld.2.2.2.2.2.2.1,cell_alloc_keep hHeld.2.2.2.2.2.2.2.1,cell_alloc_keep hHeld.2.2.2.2.2.2.2.2.1,cell_alloc_keep hHeld.2.2.2.2.2.2.2.2.2⟩
  clear hK K
  (try simp only[zqa,zqb,zqc,Act.put,zqd,zqe,zqf])
 )
 rotate_left
 focus (
  go_simp
  refine hK.out _ _ ?_ (fun hHeld=>?_)
  · (try dsimp only);exact⟨cell_alloc_keep hHeld.1,cell_alloc_keep hHeld.2.1,cell_alloc_keep hHeld.2.2.1,cell_alloc_keep hHeld.2.2.2.1,cell_alloc_keep hHeld.2.2.2.2.1,cell_alloc_keep hHeld.2.2.2.2.2.1,cell_alloc_keep hHeld.2.2.2.2.2.2.1,cell_alloc_keep hHeld.2.2.2.2.2.2.2.1,cell_alloc_keep hHeld.2.2.2.2.2.2.2.2.1,cell_alloc_keep hHeld.2.2.2.2.2.2.2.2.2⟩
  clear hK K
  (try simp only[zqa,zqb,zqc,Act.put,zqd,zqe,zqf])
  refine wpAnyH_ready (rs:=[12]) (by kernel_rfl) (by simp) ?_
  refine AllReadyH.cons (o:=_) rfl (fun K hK=>?_) AllReadyH.nil
  go_simp
  refine hK.out _ _ ?_ (fun hHeld=>?_)
  · (try dsimp only);exact hHeld
  clear hK K
  (try simp only[zqa,zqb,zqc,Act.put,zqd,zqe,zqf])
 )
 rotate_left
 all_goals (
  refine wpAnyH_ready (rs:=[23]) (by kernel_rfl) (by simp) ?_
  refine AllReadyH.cons (o:=_) rfl (fun K hK=>?_) AllReadyH.nil
  rw[if_pos (by rfl)]
  refine Ow.wp_append_to _ (.tmp 154) (.tmp 164) 52 rfl 0 57 ii _ 9 88 Tryz.underlying52 hii hz0 hz1 hz2 rfl (by decide) (.slice oa on oc) on (B.cs k) rfl (by exact HOR.out.1) ⟨vd.heap.size,0,none⟩ 1 1 (by omega) [zi (o.kind:Int),zi (o.key:Int),zi (o.hi:Int),zi (o.value:Int),zi (r.e:Int),zi (r.value:Int),.slice va vn vc,zi 0,zi (r.reason:Int)] rfl rfl (fun j u hu=>Ow.new_row vd [zi (o.kind:Int),zi (o.key:Int),zi (o.hi:Int),zi (o.value:Int),zi (r.e:Int),zi (r.value:Int),.slice va vn vc,zi 0,zi (r.reason:Int)] _ vd.heap.size (by simp) j u hu) (by intro u hu;simp at hu;rcases hu with rfl|rfl|rfl|rfl|rfl|rfl|rfl|rfl|rfl<;>rfl) (by have:=HOR.out.2;unfold maxLen;omega) (by have:=HOR.out.2;omega) (Nat.zero_le _) ?_;intro v' w8 q1 q2 q3;obtain⟨r1,r2,r3,B',r4,r5⟩:=HAD.out v' w8 q1 q2 q3;obtain⟨av8,cp8,rfl,_⟩:=Ow.own_form q1;have T8:=zH (zA r4 r5);clear q1 q2 q3 r4 r5
  refine hK.out _ _ ?_ (fun hHeld=>?_)
  · (try dsimp only);exact⟨r3 _ _ (by exact GL.out.1) (by exact GN.out.2.2.1) S0.1,r3 _ _ (by exact GL.out.1) (by exact GN.out.2.2.1) S0.2.1,r3 _ _ (by exact GL.out.1) (by exact GN.out.2.2.1) S0.2.2.1,r3 _ _ (by exact GL.out.1) (by exact GN.out.2.2.1) S0.2.2.2.1,r3 _ _ (by exact GL.out.1) (by exact GN.out.2.2.1) S0.2.2.2.2.1,r3 _ _ (by exact GL.out.2) (by exact GN.out.2.2.2) S0.2.2.2.2.2.1,r3 _ _ (by exact GL.out.2) (by exact GN.out.2.2.2) S0.2.2.2.2.2.2.1,r3 _ _ (by exact GL.out.2) (by exact GN.out.2.2.2) S0.2.2.2.2.2.2.2.1,r3 _ _ (by exact GL.out.2) (by exact GN.out.2.2.2) S0.2.2.2.2.2.2.2.2.1,r3 _ _ (by exact GL.out.2) (by exact GN.out.2.2.2) S0.2.2.2.2.2.2.2.2.2⟩
  clear hK K
  (try simp only[zqa,zqb,zqc,Act.put,zqd,zqe,zqf])
  refine zqt (i:=24) (v:=?_) rfl (by kernel_rfl) (fun _ _ _ h=>h) (Or.inl ⟨by rfl,?_⟩) hHeld ?_
  rotate_left
  · (intro w hSw;(try dsimp only at hSw);go_simp;(try with_reducible rfl))
  (try simp only[zqa,zqb,zqc,Act.put,zqd,zqe,zqf])
  refine zqt (i:=25) (v:=?_) rfl (by kernel_rfl) (fun _ _ _ h=>h) (Or.inl ⟨by rfl,?_⟩) hHeld ?_
  rotate_left
  · (intro w hSw;(try dsimp only at hSw);go_simp;(try with_reducible rfl))
  (try simp only[zqa,zqb,zqc,Act.put,zqd,zqe,zqf])
  refine wpAnyH_ready (rs:=[26]) (by kernel_rfl) (by simp) ?_
  refine AllReadyH.cons (o:=_) rfl (fun K hK=>?_) AllReadyH.nil
  go_simp
  refine hK.out _ _ ?_ (fun hHeld=>?_)
  · (try dsimp only);exact⟨cell_set_keep (by exact GN.out.1) hHeld.1,cell_set_keep (by exact GN.out.1) hHeld.2.1,cell_set_keep (by exact GN.out.1) hHeld.2.2.1,cell_set_keep (by exact GN.out.1) hHeld.2.2.2.1,cell_set_keep (by exact GN.out.1) hHeld.2.2.2.2.1,cell_set_keep (by exact GN.out.2.1) hHeld.2.2.2.2.2.1,cell_set_keep (by exact GN.out.2.1) hHeld.2.2.2.2.2.2.1,cell_set_keep (by exact GN.out.2.1) hHeld.2.2.2.2.2.2.2.1,cell_set_keep (by exact GN.out.2.1) hHeld.2.2.2.2.2.2.2.2.1,cell_set_keep (by exact GN.out.2.1) hHeld.2.2.2.2.2.2.2.2.2⟩
  clear hK K
  (try simp only[zqa,zqb,zqc,Act.put,zqd,zqe,zqf])
  refine wpAnyH_done (by kernel_rfl) ?_ _
 )
 all_goals (
  generalize w8.setCell _ _=w9 at*
  have k3:=T8.out.2.obj List.mem_cons_self
  have z30:=obj_cell k3 0 rfl
  have z31:=obj_cell k3 1 rfl
  clear k3 S0 T7 HOR HAD GN GL y5 y5a r1 r2 r3 hHeld
  go_wp2
  go_ret
  exact⟨rfl,[_,_,_,_],B',T8.out.1,T8.out.2⟩
 )
end Go.Proofs.YtbefcdjcefmicaaGreat.Em
