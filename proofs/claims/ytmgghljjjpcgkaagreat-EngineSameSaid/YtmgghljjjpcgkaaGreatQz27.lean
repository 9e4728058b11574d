import Derived.Test.YtmgghljjjpcgkaaGreatQz21
import Derived.Deep.RegionWith
namespace Go.Proofs.YtmgghljjjpcgkaaGreat.Em
open Go.ChangeShapes Go.WideShapes Go.ChangeAt Go.RowKit En
set_option linter.unusedVariables false
set_option linter.unusedSimpArgs false
set_option maxRecDepth 100000
set_option maxHeartbeats 1600000
theorem dealsCs_len (l:List (Dl×Value)):(dealsCs l).length=l.length*6:=by
 unfold dealsCs
 induction l with
 |nil=>rfl
 |cons a l ih=>rw[List.flatMap_cons,List.length_append,ih,List.length_cons,show (dealCs a.1 a.2).length=6 from rfl];omega
theorem dealsCs_get:∀ (l:List (Dl×Value)) (k j:Nat),j<6→(dealsCs l)[k*6+j]? =(l[k]?).bind fun p=>(dealCs p.1 p.2)[j]?
 |[],_,_,_=>rfl
 |a::l,0,j,hj=>by
  unfold dealsCs;rw[List.flatMap_cons,Nat.zero_mul,Nat.zero_add,List.getElem?_append_left (by exact hj)];rfl
 |a::l,k+1,j,hj=>by
  have h:=dealsCs_get l k j hj;unfold dealsCs at h ⊢;rw[List.flatMap_cons,List.getElem?_append_right (by show 6≤_;omega),show (k+1)*6+j - (dealCs a.1 a.2).length=k*6+j by show _ - 6=_;omega,h];rfl
theorem dealsCs_set:∀ (l:List (Dl×Value)) (k j:Nat) (u:Value) (p p':Dl×Value),j<6→l[k]? =some p→(dealCs p.1 p.2).set j u=dealCs p'.1 p'.2→(dealsCs l).set (k*6+j) u=dealsCs (l.set k p')
 |[],_,_,_,_,_,_,h,_=>by cases h
 |a::l,0,j,u,p,p',hj,h,he=>by
  obtain rfl:a=p:=by simpa using h
  unfold dealsCs;rw[List.flatMap_cons,Nat.zero_mul,Nat.zero_add,List.set_append_left _ _ (by exact hj),he];rfl
 |a::l,k+1,j,u,p,p',hj,h,he=>by
  have ih:=dealsCs_set l k j u p p' hj (by simpa using h) he;unfold dealsCs at ih ⊢;rw[List.flatMap_cons,List.set_append_right _ _ (by show 6≤_;omega),show (k+1)*6+j - (dealCs a.1 a.2).length=k*6+j by show _ - 6=_;omega,ih];rfl
theorem Kepts.rowOf {L:Lab} {w:World} {size:Nat} {v:Value} {xs:List Value}:∀ {ks:List Kept},Kepts L w ks→Kept.row size v xs∈ks→FRow L w size v xs
 |[],_,h=>by cases h
 |x::ks,t,h=>by
  rcases List.mem_cons.1 h with rfl|h
  · exact t.1
  · exact Kepts.rowOf t.2 h
section
variable {B:WBook} {be:Nat} {w0 w w':World} {ks:List Kept} {W:Wd}
theorem own_slice {w:World} {base:Nat} {e:TypeId} {size:Nat} {v:Value} {n:Nat} {xs:List Value} (h:w.ownsRow base e size v n xs) (hn:0<n):∃ g cap,v=.slice (some ⟨g,0,none⟩) n cap∧n≤cap∧cap≤maxLen:=by
 rcases h.2 with ⟨_,h0⟩|⟨g,cap,cur,hv,hb,hg,hnc,hcm,_⟩
 · omega
 · exact⟨g,cap,hv,hnc,hcm⟩
theorem WK.deal (h:WK B be w0 ks W w) {k:Nat} {p:Dl×Value} (hk:B.ds[k]? =some p):∃ g cap,B.vd=.slice (some ⟨g,0,none⟩) B.ds.length cap∧B.ds.length≤cap∧cap≤maxLen∧B.M g=some .tale∧∀ j v,j<6→(dealCs p.1 p.2)[j]? =some v→w.cell? ⟨g,k*6+j,none⟩=some v∧w.frozen? ⟨g,k*6+j,none⟩=false:=by
 have hlt:k<B.ds.length:=(List.getElem?_eq_some_iff.1 hk).1;obtain⟨A,rfl,l,r,g0,t⟩:=h.ex;have ho:=r.mem.all .tale;obtain⟨g,cap,hv,hnc,hcm⟩:=own_slice ho.1 (by omega);refine⟨g,cap,hv,hnc,hcm,ho.2 g (by rw[hv];rfl),fun j v hj hv'=>?_⟩;have h1:=ho.1;rw[hv] at h1;have hl:=dealsCs_len B.ds;refine⟨?_,h1.frozenAt _⟩;rw[h1.cellAt (k*6+j) (by omega),dealsCs_get _ _ _ hj,hk];exact hv'
theorem WK.opsRow (h:WK B be w0 ks W w) {k:Nat} {p:Dl×Value} (hk:B.ds[k]? =some p):w.ownsRow 0 155 9 p.2 p.1.ops.length (B.cs k)∧∀ g,p.2.ownBlock=some g→B.M g=some (.reads k):=by
 obtain⟨A,rfl,l,r,g0,t⟩:=h.ex;have ho:=r.mem.all (.reads k);simp only[wmem,hk] at ho;exact ho
theorem WK.setDeal (h:WK B be w0 ks W w) {k:Nat} {p:Dl×Value} (hk:B.ds[k]? =some p) {j:Nat} (hj:j<6) (u:Value) (d':Dl) (hd:(dealCs p.1 p.2).set j u=dealCs d' p.2) (hops:d'.ops=p.1.ops) {g cap:Nat} (hg:B.vd=.slice (some ⟨g,0,none⟩) B.ds.length cap):
 WK {B with ds:=B.ds.set k (d',p.2)} be w0 ks {W with deals:=W.deals.set k d'} (w.setCell ⟨g,k*6+j,none⟩ u):=by
 have hlt:k<B.ds.length:=(List.getElem?_eq_some_iff.1 hk).1;have hge:∀ b r,B.M b=some r→w0.heap.size≤b:=fun b r=>h.ge
 obtain⟨A,rfl,l,r,g0,t⟩:=h.ex;have ho:=r.mem.all .tale;have hgm:B.M g=some .tale:=ho.2 g (by rw[hg];rfl);have hl:A.L g=some .tmp:=r.tie _ _ hgm;have hbut:=But.setCell w ⟨g,k*6+j,none⟩ u;have h1:=ho.1;rw[hg] at h1;obtain⟨hs,_⟩:=h1.stored (k*6+j) u;rw[dealsCs_set B.ds k j u p (d',p.2) hj hk hd] at hs;refine⟨A,rfl,l.but hl hbut,⟨r.tie,?_,fun k' p' hk'=>?_,?_,r.i8,r.o8⟩,g0.but (hge _ _ hgm) hbut,KW.soft (hbut.soft hl) (fun b hb1 hb2 _=>⟨hb2,hbut.block b (by rintro rfl;rw[hgm] at hb1;cases hb1),hb1⟩) t⟩
 · refine r.mem.upd .tale ?_ (fun q hq=>?_) (fun b q hb' hl' hq=>hbut.block b ?_) (fun _ _=>rfl) (fun b hb'=>r.mem.fresh b (by rw[←hbut.size];exact hb'))
   · show Entry.Holds B.M _ .tale (.own B.vd _ 6 (B.ds.set k (d',p.2)).length (dealsCs (B.ds.set k (d',p.2))))
     rw[List.length_set,hg];refine⟨hs,fun g' hg'=>?_⟩;obtain rfl:g=g':=by simpa [Value.ownBlock] using hg'
     exact hgm
   · cases q with
     |tale=>exact absurd rfl hq
     |reads k'=>
      simp only[wmem]
      by_cases hkk:k'=k
      · subst hkk
        rw[List.getElem?_set_self hlt,hk];show Entry.own p.2 _ 9 d'.ops.length _=_;rw[hops]
      · rw[List.getElem?_set_ne (Ne.symm hkk)]
     |_=>rfl
   · rintro rfl
     rw[hgm] at hl';exact hq (Option.some.inj hl').symm
 · by_cases hkk:k'=k
   · subst hkk
     replace hk':(B.ds.set k' (d',p.2))[k']? =some p':=hk';rw[List.getElem?_set_self hlt] at hk';obtain rfl:=Option.some.inj hk';show Cls A.L _ d'.ops (B.cs k');rw[hops];exact (r.cls k' p hk).soft (hbut.soft hl)
   · replace hk':(B.ds.set k (d',p.2))[k']? =some p':=hk'
     rw[List.getElem?_set_ne (Ne.symm hkk)] at hk';exact (r.cls k' p' hk').soft (hbut.soft hl)
 · show (B.ds.set k (d',p.2)).map (·.1)=W.deals.set k d'
   rw[←r.dl,List.map_set]
theorem WK.addOp {w1:World} {v':Value} (h:WK B be w0 ks W w) {k:Nat} {p:Dl×Value} (hk:B.ds[k]? =some p) (oo:En.Op) (rr:Res) (vp:Value) (hp:Kept.row 2 vp (pairCs rr.pairs)∈ks) (hb:Below w.heap.size w w1)
 (ho:w'.ownsRow 0 155 9 v' (p.1.ops.length+1) (B.cs k++callsC oo rr vp)) (hg:w1.grownBy w' p.2.ownBlock) (h3:v'.ownBlock=p.2.ownBlock∨∀ g,v'.ownBlock=some g→w1.heap.size≤g) {gd cap:Nat} (hgd:B.vd=.slice (some ⟨gd,0,none⟩) B.ds.length cap):
 w'.cell? ⟨gd,k*6+5,none⟩=some p.2∧w'.frozen? ⟨gd,k*6+5,none⟩=false∧(∀ a v,a.block<w.heap.size→p.2.ownBlock≠some a.block→w.cell? a=some v→w'.cell? a=some v)∧
 ∃ B',B'.bw=B.bw∧WK B' be w0 ks {W with deals:=W.deals.set k {p.1 with ops:=p.1.ops++[(oo,rr)]}} (w'.setCell ⟨gd,k*6+5,none⟩ v'):=by
 have hlt:k<B.ds.length:=(List.getElem?_eq_some_iff.1 hk).1;have h1:=h.below hb;have hge:∀ b r,B.M b=some r→w0.heap.size≤b:=fun b r=>h1.ge
 have hrow:=h1.opsRow hk;obtain⟨A,rfl,l,r,g,t⟩:=h1.ex;have hod:=r.mem.all .tale;have hgm:B.M gd=some .tale:=hod.2 gd (by rw[hgd];rfl);have htm:TmpRow A.L p.2:=fun b hb=>r.tie b _ (hrow.2 b hb)
 obtain⟨L',hown,htm'⟩:=append_tmp l htm ho hg h3;have hgr:=r.mem.grown (.reads k) (v:=p.2) (v':=v') (n:=p.1.ops.length) (n':=p.1.ops.length+1) (xs:=B.cs k) (by simp only[wmem,hk]) hg ho h3;obtain⟨hm,hgm'⟩:=hgr;have hlt':gd<w1.heap.size:=r.lt hgm;have hne:some gd≠p.2.ownBlock:=by
  intro e;have:=hrow.2 gd e.symm;rw[hgm] at this;cases this
 have hd0:=hm.all .tale;rw[updE_other _ _ (by simp)] at hd0;have hd1:=hd0.1;rw[hgd] at hd1;have hc1:w'.cell? ⟨gd,k*6+5,none⟩=some p.2:=by
  rw[hd1.cellAt (k*6+5) (by have:=dealsCs_len B.ds;omega),dealsCs_get _ _ _ (by omega),hk];rfl
 obtain⟨hs,_⟩:=hd1.stored (k*6+5) v';rw[dealsCs_set B.ds k 5 v' p ({p.1 with ops:=p.1.ops++[(oo,rr)]},v') (by omega) hk rfl] at hs;have hlb:L' gd=some .tmp:=(hown.lab _ hlt').trans (r.tie _ _ hgm);have hbut:=But.setCell w' ⟨gd,k*6+5,none⟩ v';have hsoft:=hbut.soft hlb;have hvp:FRow A.L w1 2 vp (pairCs rr.pairs):=Kepts.rowOf t.1 hp;refine⟨hc1,hd1.frozenAt _,fun a v ha hna hc=>?_,{B with M:=labV B.M v' (.reads k),ds:=B.ds.set k ({p.1 with ops:=p.1.ops++[(oo,rr)]},v'),cs:=fun i=>if i=k then B.cs k++callsC oo rr vp else B.cs i},rfl,{A with L:=L'},rfl,(l.rown hown).but hlb hbut,⟨fun b q hbq=>?_,?_,fun k' p' hk'=>?_,?_,r.i8,r.o8⟩,(g.rown hown (fun b hb=>hge b _ (hrow.2 b hb))).but (hge _ _ hgm) hbut,KW.soft (hown.soft.trans hsoft) (far_app (r:=.reads k) hown hgm (fun g hg=>hrow.2 g hg) hg h3 hbut) t⟩
 · rw[World.cell?_of_block (w:=w) ((hg.block a.block (Nat.lt_of_lt_of_le ha hb.size) (fun e=>hna e.symm)).trans (hb.block a.block ha))];exact hc
 · replace hbq:labV B.M v' (.reads k) b=some q:=hbq
   unfold labV at hbq
   split at hbq
   · rename_i hv
     exact htm' b hv
   · exact (hown.lab b (r.lt hbq)).trans (r.tie b q hbq)
 · have hgl:labV B.M v' (.reads k) gd=some .tale:=by
    unfold labV;rw[if_neg]
    · exact hgm
    · intro e
      rcases h3 with h3|h3
      · exact hne (h3 ▸ e.symm)
      · have:=h3 gd e;omega
   refine hm.upd .tale ?_ (fun q hq=>?_) (fun b q hb' hl' hq=>hbut.block b ?_) (fun _ _=>rfl) (fun b hb'=>hm.fresh b (by rw[←hbut.size];exact hb'))
   · show Entry.Holds (labV B.M v' (.reads k)) _ .tale (.own B.vd _ 6 (B.ds.set k _).length (dealsCs (B.ds.set k ({p.1 with ops:=p.1.ops++[(oo,rr)]},v'))))
     rw[List.length_set,hgd];refine⟨hs,fun g' hg'=>?_⟩;obtain rfl:gd=g':=by simpa [Value.ownBlock] using hg'
     exact hgl
   · cases q with
     |tale=>exact absurd rfl hq
     |reads k'=>
      by_cases hkk:k'=k
      · subst hkk
        rw[updE_same];simp only[wmem];rw[List.getElem?_set_self hlt];simp only[if_true,List.length_append];rfl
      · rw[updE_other _ _ (by simpa using hkk)]
        simp only[wmem];rw[List.getElem?_set_ne (Ne.symm hkk),if_neg hkk]
     |_=>rw[updE_other _ _ (by simp)];rfl
   · intro e
     replace e:b=gd:=e;subst e;replace hl':labV B.M v' (.reads k) b=some q:=hl';rw[hgl] at hl';exact hq (Option.some.inj hl').symm
 · by_cases hkk:k'=k
   · subst hkk
     replace hk':(B.ds.set k' ({p.1 with ops:=p.1.ops++[(oo,rr)]},v'))[k']? =some p':=hk';rw[List.getElem?_set_self hlt] at hk';obtain rfl:=Option.some.inj hk';show Cls L' _ (p.1.ops++[(oo,rr)]) (if k'=k' then _ else _);rw[if_pos rfl];exact (((r.cls k' p hk).snoc oo rr vp hvp).soft hown.soft).soft hsoft
   · replace hk':(B.ds.set k ({p.1 with ops:=p.1.ops++[(oo,rr)]},v'))[k']? =some p':=hk'
     rw[List.getElem?_set_ne (Ne.symm hkk)] at hk';show Cls L' _ p'.1.ops (if k'=k then _ else _);rw[if_neg hkk];exact ((r.cls k' p' hk').soft hown.soft).soft hsoft
 · show (B.ds.set k _).map (·.1)=W.deals.set k _
   rw[←r.dl,List.map_set]
end
theorem wstep_ran {B:WBook} {be:Nat} {w0 w:World} {ks:List Kept} {W:Wd} (h:WK B be w0 ks W w) {s:Nat} (hs:s<8) {σ1:St} {kd:Nat} (hbe:oneStep W.σ s=some (σ1,kd,{})) (hkd:kd=1∨kd=2) (hbz:(W.σ.status s).busy=true) (hl1:σ1.looks≤W.σ.looks+1) (hl2:W.σ.looks≤σ1.looks) (hl3:W.σ.looks<1000000000000000) (hnb:(σ1.status s).busy=true) (hnw:(σ1.status s).waits=decide (kd=2)):
 Calls Tryz.prog 31 #[.pointer (some ⟨B.bw,0,none⟩),zi (s:Int)] w fun e w'=>e=.returned (.bool true)∧∃ ks',WK B be w0 (ks'++ks) {W with σ:=σ1} w':=by
 obtain⟨lv,wt,a1,a2,a3,a4,en,a6,hst,hen⟩:∃ lv wt a1 a2 a3 a4,∃ en:Nat,∃ a6,statusCs (W.σ.status s)=#[.bool lv,.bool true,.bool wt,zi a1,zi a2,zi a3,zu a4,zu (en:Int),zi a6]∧en=(W.σ.status s).end_:=by
  refine⟨(W.σ.status s).live,(W.σ.status s).waits,((W.σ.status s).id:Int),((W.σ.status s).level:Int),((W.σ.status s).state:Int),((W.σ.status s).begin_:Int),(W.σ.status s).end_,((W.σ.status s).ops:Int),?_,rfl⟩;unfold statusCs;rw[hbz]
 obtain⟨lk,hlk⟩:∃ lk,lk=W.σ.looks:=⟨_,rfl⟩
 obtain⟨lk1,hlk1⟩:∃ lk1,lk1=σ1.looks:=⟨_,rfl⟩
 rw[←hlk] at hl1 hl2 hl3;rw[←hlk1] at hl1 hl2;obtain⟨zlv,za1,za2,za3,za4,zen,za6,hst1⟩:∃ zlv za1 za2 za3 za4,∃ zen:Nat,∃ za6,statusCs (σ1.status s)=#[.bool zlv,.bool true,.bool (decide (kd=2)),zi za1,zi za2,zi za3,zu za4,zu (zen:Int),zi za6]:=by
  refine⟨(σ1.status s).live,((σ1.status s).id:Int),((σ1.status s).level:Int),((σ1.status s).state:Int),((σ1.status s).begin_:Int),(σ1.status s).end_,((σ1.status s).ops:Int),?_⟩;unfold statusCs;rw[hnb,hnw]
 clear hnb hnw hbz hen;have hq:∃ kz:Int,kz=(kd:Int)∧∃ wz:Bool,wz=decide (kd=2)∧((kz=1∧wz=false)∨(kz=2∧wz=true)):=⟨_,rfl,_,rfl,by rcases hkd with rfl|rfl<;>simp⟩
 obtain⟨kz,hkz,wz,hwz,hq⟩:=hq;rw[←hwz] at hst1;clear hwz hkd
 rcases hq with ⟨rfl,rfl⟩|⟨rfl,rfl⟩
 · have N1:Hid (∀ ks w1,WK B be w0 ks W w1→Calls Tryz.prog 9 #[.pointer (some ⟨be,0,none⟩),zi (s:Int)] w1 fun e w'=>e=.returned (.agg #[.bool lv,.bool true,.bool wt,zi a1,zi a2,zi a3,zu a4,zu (en:Int),zi a6])∧WK B be w0 ks W w'):=fun ks w1 q=>by
    have hh:=status_wk q s hs;rw[hst] at hh;exact hh
   have N2:Hid (∀ ks w1,WK B be w0 ks W w1→Calls Tryz.prog 7 #[.pointer (some ⟨be,0,none⟩)] w1 fun e w'=>e=.returned (zi (lk:Int))∧w1=w'):=fun ks w1 q=>by
    have hh:=looks_wk q;rw[←hlk] at hh;exact hh
   have N3:Hid (∀ ks w1,WK B be w0 ks W w1→Calls Tryz.prog 23 #[.pointer (some ⟨be,0,none⟩),zi (s:Int)] w1 fun e w'=>∃ va vc,e=.returned (.tuple #[.agg #[zi 1,zi 0,zi 0,.slice va 0 vc,zi 0,zi 0],zi 0])∧WK B be w0 (.row 2 (.slice va 0 vc) (pairCs [])::ks) {W with σ:=σ1} w'):=fun ks w1 q=>by
    refine (step_wk q hs hbe).mono ?_;rintro e w' ⟨va,vn,vc,rfl,hvn,q⟩;subst hvn;rw[←hkz] at*;exact⟨va,vc,rfl,q⟩
   have N4:Hid (∀ ks w1,WK B be w0 ks {W with σ:=σ1} w1→Calls Tryz.prog 7 #[.pointer (some ⟨be,0,none⟩)] w1 fun e w'=>e=.returned (zi (lk1:Int))∧w1=w'):=fun ks w1 q=>by
    have hh:=looks_wk q;rw[←hlk1] at hh;exact hh
   have N5:Hid (∀ ks w1,WK B be w0 ks {W with σ:=σ1} w1→Calls Tryz.prog 9 #[.pointer (some ⟨be,0,none⟩),zi (s:Int)] w1 fun e w'=>e=.returned (.agg #[.bool zlv,.bool true,.bool false,zi za1,zi za2,zi za3,zu za4,zu (zen:Int),zi za6])∧WK B be w0 ks {W with σ:=σ1} w'):=fun ks w1 q=>by
    have hh:=status_wk q s hs;rw[hst1] at hh;exact hh
   have C:Hid (∀ σ' ks w1,WK B be w0 ks {W with σ:=σ'} w1→w1.cell? ⟨B.bw,0,none⟩=some (.pointer (some ⟨be,0,none⟩))):=fun σ' ks w1 q=>(q.wcell 0 rfl).1
   have O1:Hid (∀ ks W1 w1 g,WK B be w0 (.obj g (.cells #[.bool lv,.bool true,.bool wt,zi a1,zi a2,zi a3,zu a4,zu (en:Int),zi a6] 40)::ks) W1 w1→w1.cell? ⟨g,1,none⟩=some (.bool true)∧w1.cell? ⟨g,7,none⟩=some (zu (en:Int))):=fun ks W1 w1 g q=>by
    have hb:=q.obj (List.mem_cons_self);exact⟨obj_cell hb 1 rfl,obj_cell hb 7 rfl⟩
   have b0:((s:Int)<0)=False:=by simp
   have b1:((7:Int)<(s:Int))=False:=by simp;omega
   have b2:(0:Int)≤(s:Int):=by omega
   have b3:(s:Int)<8:=by omega
   have b4:decide ((s:Int)<0)=false:=by simp
   have b5:decide ((7:Int)<(s:Int))=false:=by simp;omega
   have b6:(7<s)=False:=by simp;omega
   have n1:IntKind.i64.wrap ((lk:Int)+1)=(lk:Int)+1:=by rw[IntKind.wrap_i64];omega
   have c1:((lk:Int)+1<(lk1:Int))=False:=by simp;omega
   have c2:decide ((lk:Int)+1<(lk1:Int))=false:=by simp;omega
   have c3:((lk1:Int)<(lk:Int))=False:=by simp;omega
   have c4:decide ((lk1:Int)<(lk:Int))=false:=by simp;omega
   have c5:(lk1<lk)=False:=by simp;omega
   clear hkz;have T0:=zH h;have x0:=C.out W.σ _ _ T0.out;clear hst hst1 hlk hlk1 hl1 hl2 hl3 hbe h hs;go_enter Tryz.func31,Tryz.ntmps31;go_upto_region 11 with (first|(go_at_call 9;refine (N1.out _ _ T0.out).mono ?_;clear T0;rintro e w1 ⟨rfl,q⟩;have x1:=C.out W.σ _ _ (q.alloc (.cells #[.bool lv,.bool true,.bool wt,zi a1,zi a2,zi a3,zu a4,zu (en:Int),zi a6] 40));have T1:=zH (q.alloc (.cells #[.bool lv,.bool true,.bool wt,zi a1,zi a2,zi a3,zu a4,zu (en:Int),zi a6] 40));clear q)|(go_at_call 7;refine (N2.out _ _ T1.out).mono ?_;rintro e w' ⟨rfl,rfl⟩;have T2:=T1;clear T1)|(go_at_call 23;refine (N3.out _ _ T2.out).mono ?_;clear T2;rintro e w3 ⟨va,vc,rfl,q⟩;have q2:=q.alloc (.cells #[zi 1,zi 0,zi 0,.slice va 0 vc,zi 0,zi 0] 65);have x3:=C.out σ1 _ _ q2;obtain⟨y1,y2⟩:=O1.out _ _ _ _ q2.tail.tail;have T3:=zH q2;clear q q2)|(go_at_call 7;refine (N4.out _ _ T3.out).mono ?_;rintro e w' ⟨rfl,rfl⟩)|(go_at_call 9;refine (N5.out _ _ T3.out).mono ?_;clear T3;rintro e w6 ⟨rfl,q⟩;have q2:=q.alloc (.cells #[.bool zlv,.bool true,.bool false,zi za1,zi za2,zi za3,zu za4,zu (zen:Int),zi za6] 40);have T6:=zH q2;clear q q2))
   generalize hv6:w6.alloc _=v6 at*;generalize w1.heap.size=g1 at*;generalize w3.heap.size=g2 at*;generalize w6.heap.size=g3 at*;have x6:=C.out σ1 _ _ T6.out;have k3:=T6.out.obj List.mem_cons_self;have k2:=T6.out.tail.obj List.mem_cons_self;have k1:=T6.out.tail.tail.tail.obj List.mem_cons_self;have z30:=obj_cell k3 0 rfl;have z31:=obj_cell k3 1 rfl;have z32:=obj_cell k3 2 rfl;have z20:=obj_cell k2 0 rfl;have z21:=obj_cell k2 1 rfl;have z22:=obj_cell k2 2 rfl;have z23:=obj_cell k2 3 rfl;have z24:=obj_cell k2 4 rfl;have z25:=obj_cell k2 5 rfl;have z17:=obj_cell k1 7 rfl;clear k1 k2 k3 hv6 N1 N2 N3 N4 N5 C O1 b0 b1 b4 b5 b6 c1 c2 c3 c4 c5 n1;have HSR:=zH (fun w1 h1=>same_result 0 0 0 0 va none 0 vc 0 [] w1 h1 (row_nil w1 2));go_wp2_with (go_at_call 34;refine (HSR.out _ (T6.out.tail.tail.row List.mem_cons_self)).mono ?_;rintro e w9 ⟨rfl,hb⟩;have T9:=zH (T6.out.below hb);clear hb);go_ret;exact⟨rfl,[_,_,_,_],T9.out⟩
 · have N1:Hid (∀ ks w1,WK B be w0 ks W w1→Calls Tryz.prog 9 #[.pointer (some ⟨be,0,none⟩),zi (s:Int)] w1 fun e w'=>e=.returned (.agg #[.bool lv,.bool true,.bool wt,zi a1,zi a2,zi a3,zu a4,zu (en:Int),zi a6])∧WK B be w0 ks W w'):=fun ks w1 q=>by
    have hh:=status_wk q s hs;rw[hst] at hh;exact hh
   have N2:Hid (∀ ks w1,WK B be w0 ks W w1→Calls Tryz.prog 7 #[.pointer (some ⟨be,0,none⟩)] w1 fun e w'=>e=.returned (zi (lk:Int))∧w1=w'):=fun ks w1 q=>by
    have hh:=looks_wk q;rw[←hlk] at hh;exact hh
   have N3:Hid (∀ ks w1,WK B be w0 ks W w1→Calls Tryz.prog 23 #[.pointer (some ⟨be,0,none⟩),zi (s:Int)] w1 fun e w'=>∃ va vc,e=.returned (.tuple #[.agg #[zi 2,zi 0,zi 0,.slice va 0 vc,zi 0,zi 0],zi 0])∧WK B be w0 (.row 2 (.slice va 0 vc) (pairCs [])::ks) {W with σ:=σ1} w'):=fun ks w1 q=>by
    refine (step_wk q hs hbe).mono ?_;rintro e w' ⟨va,vn,vc,rfl,hvn,q⟩;subst hvn;rw[←hkz] at*;exact⟨va,vc,rfl,q⟩
   have N4:Hid (∀ ks w1,WK B be w0 ks {W with σ:=σ1} w1→Calls Tryz.prog 7 #[.pointer (some ⟨be,0,none⟩)] w1 fun e w'=>e=.returned (zi (lk1:Int))∧w1=w'):=fun ks w1 q=>by
    have hh:=looks_wk q;rw[←hlk1] at hh;exact hh
   have N5:Hid (∀ ks w1,WK B be w0 ks {W with σ:=σ1} w1→Calls Tryz.prog 9 #[.pointer (some ⟨be,0,none⟩),zi (s:Int)] w1 fun e w'=>e=.returned (.agg #[.bool zlv,.bool true,.bool true,zi za1,zi za2,zi za3,zu za4,zu (zen:Int),zi za6])∧WK B be w0 ks {W with σ:=σ1} w'):=fun ks w1 q=>by
    have hh:=status_wk q s hs;rw[hst1] at hh;exact hh
   have C:Hid (∀ σ' ks w1,WK B be w0 ks {W with σ:=σ'} w1→w1.cell? ⟨B.bw,0,none⟩=some (.pointer (some ⟨be,0,none⟩))):=fun σ' ks w1 q=>(q.wcell 0 rfl).1
   have O1:Hid (∀ ks W1 w1 g,WK B be w0 (.obj g (.cells #[.bool lv,.bool true,.bool wt,zi a1,zi a2,zi a3,zu a4,zu (en:Int),zi a6] 40)::ks) W1 w1→w1.cell? ⟨g,1,none⟩=some (.bool true)∧w1.cell? ⟨g,7,none⟩=some (zu (en:Int))):=fun ks W1 w1 g q=>by
    have hb:=q.obj (List.mem_cons_self);exact⟨obj_cell hb 1 rfl,obj_cell hb 7 rfl⟩
   have b0:((s:Int)<0)=False:=by simp
   have b1:((7:Int)<(s:Int))=False:=by simp;omega
   have b2:(0:Int)≤(s:Int):=by omega
   have b3:(s:Int)<8:=by omega
   have b4:decide ((s:Int)<0)=false:=by simp
   have b5:decide ((7:Int)<(s:Int))=false:=by simp;omega
   have b6:(7<s)=False:=by simp;omega
   have n1:IntKind.i64.wrap ((lk:Int)+1)=(lk:Int)+1:=by rw[IntKind.wrap_i64];omega
   have c1:((lk:Int)+1<(lk1:Int))=False:=by simp;omega
   have c2:decide ((lk:Int)+1<(lk1:Int))=false:=by simp;omega
   have c3:((lk1:Int)<(lk:Int))=False:=by simp;omega
   have c4:decide ((lk1:Int)<(lk:Int))=false:=by simp;omega
   have c5:(lk1<lk)=False:=by simp;omega
   clear hkz;have T0:=zH h;have x0:=C.out W.σ _ _ T0.out;clear hst hst1 hlk hlk1 hl1 hl2 hl3 hbe h hs;go_enter Tryz.func31,Tryz.ntmps31;go_upto_region 11 with (first|(go_at_call 9;refine (N1.out _ _ T0.out).mono ?_;clear T0;rintro e w1 ⟨rfl,q⟩;have x1:=C.out W.σ _ _ (q.alloc (.cells #[.bool lv,.bool true,.bool wt,zi a1,zi a2,zi a3,zu a4,zu (en:Int),zi a6] 40));have T1:=zH (q.alloc (.cells #[.bool lv,.bool true,.bool wt,zi a1,zi a2,zi a3,zu a4,zu (en:Int),zi a6] 40));clear q)|(go_at_call 7;refine (N2.out _ _ T1.out).mono ?_;rintro e w' ⟨rfl,rfl⟩;have T2:=T1;clear T1)|(go_at_call 23;refine (N3.out _ _ T2.out).mono ?_;clear T2;rintro e w3 ⟨va,vc,rfl,q⟩;have q2:=q.alloc (.cells #[zi 2,zi 0,zi 0,.slice va 0 vc,zi 0,zi 0] 65);have x3:=C.out σ1 _ _ q2;obtain⟨y1,y2⟩:=O1.out _ _ _ _ q2.tail.tail;have T3:=zH q2;clear q q2)|(go_at_call 7;refine (N4.out _ _ T3.out).mono ?_;rintro e w' ⟨rfl,rfl⟩)|(go_at_call 9;refine (N5.out _ _ T3.out).mono ?_;clear T3;rintro e w6 ⟨rfl,q⟩;have q2:=q.alloc (.cells #[.bool zlv,.bool true,.bool true,zi za1,zi za2,zi za3,zu za4,zu (zen:Int),zi za6] 40);have T6:=zH q2;clear q q2))
   generalize hv6:w6.alloc _=v6 at*;generalize w1.heap.size=g1 at*;generalize w3.heap.size=g2 at*;generalize w6.heap.size=g3 at*;have x6:=C.out σ1 _ _ T6.out;have k3:=T6.out.obj List.mem_cons_self;have k2:=T6.out.tail.obj List.mem_cons_self;have k1:=T6.out.tail.tail.tail.obj List.mem_cons_self;have z30:=obj_cell k3 0 rfl;have z31:=obj_cell k3 1 rfl;have z32:=obj_cell k3 2 rfl;have z20:=obj_cell k2 0 rfl;have z21:=obj_cell k2 1 rfl;have z22:=obj_cell k2 2 rfl;have z23:=obj_cell k2 3 rfl;have z24:=obj_cell k2 4 rfl;have z25:=obj_cell k2 5 rfl;have z17:=obj_cell k1 7 rfl;clear k1 k2 k3 hv6 N1 N2 N3 N4 N5 C O1 b0 b1 b4 b5 b6 c1 c2 c3 c4 c5 n1;have HSR:=zH (fun w1 h1=>same_result 0 0 0 0 va none 0 vc 0 [] w1 h1 (row_nil w1 2));go_wp2_with (go_at_call 34;refine (HSR.out _ (T6.out.tail.tail.row List.mem_cons_self)).mono ?_;rintro e w9 ⟨rfl,hb⟩;have T9:=zH (T6.out.below hb);clear hb);go_ret;exact⟨rfl,[_,_,_,_],T9.out⟩
theorem cell_alloc_keep {w:World} {o:Obj} {a:Addr} {v:Value} (h:w.cell? a=some v):(w.alloc o).cell? a=some v:=by
 rw[World.cell?_alloc_some _ _ _ (by rw[h];rfl)];exact h
theorem cell_set_keep {w:World} {a p:Addr} {u v:Value} (hn:p.block≠a.block) (h:w.cell? a=some v):(w.setCell p u).cell? a=some v:=by
 rw[World.cell?_setCell_far _ _ _ _ hn];exact h
theorem infoCall:(Tryz.prog.info? 155).map (fun i=>(i.zero,i.size,i.bytes))=some (some (.agg #[zi 0,zi 0,zi 0,zi 0,zi 0,zi 0,.slice none 0 0,zi 0,zi 0]),9,88):=by kernel_rfl
theorem WK.keptNo {B:WBook} {be:Nat} {w0 w:World} {ks:List Kept} {W:Wd} (h:WK B be w0 ks W w) {g:Nat} {ob:Obj} (hm:Kept.obj g ob∈ks):B.M g=none:=by
 obtain⟨A,rfl,l,r,g0,t,th⟩:=h.ex;have:Fix A.L w g ob:=by
  clear h l r g0 th
  induction ks with
  |nil=>cases hm
  |cons x ks ih=>
   rcases List.mem_cons.1 hm with rfl|hm
   · exact t.1
   · exact ih hm t.2
 cases hb:B.M g with
 |none=>rfl
 |some q=>have:=(r.tie g q hb).symm.trans this.1;cases this
theorem wstep_op {B:WBook} {be:Nat} {w0 w:World} {ks:List Kept} {W:Wd} (h:WK B be w0 ks W w) {s:Nat} (hs:s<8) {σ1:St} {r:Res} (hbe:oneStep W.σ s=some (σ1,3,r)) (hbz:(W.σ.status s).busy=true) (hl1:σ1.looks≤W.σ.looks+1) (hl2:W.σ.looks≤σ1.looks) (hl3:W.σ.looks<1000000000000000) (hov:r.over=0) {k:Nat} (hid:W.ids.getD s 0=k+1) {p:Dl} (hp:W.deals[k]? =some p) (hpl:p.ops.length<100000) (hdl:W.deals.length<100000) (hnl:(σ1.status s).live=true) (hnb:(σ1.status s).busy=false):
 Calls Tryz.prog 31 #[.pointer (some ⟨B.bw,0,none⟩),zi (s:Int)] w fun e w'=>e=.returned (.bool true)∧∃ ks' B',B'.bw=B.bw∧WK B' be w0 (ks'++ks) {W with σ:=σ1,deals:=W.deals.set k {p with ops:=p.ops++[(W.ops.getD s default,r)]}} w':=by
 obtain⟨ii,hii,hz0,hz1,hz2⟩:=info_parts infoCall;obtain⟨lv,wt,a1,a2,a3,a4,en,a6,hst,hen⟩:∃ lv wt a1 a2 a3 a4,∃ en:Nat,∃ a6,statusCs (W.σ.status s)=#[.bool lv,.bool true,.bool wt,zi a1,zi a2,zi a3,zu a4,zu (en:Int),zi a6]∧en=(W.σ.status s).end_:=by
  refine⟨(W.σ.status s).live,(W.σ.status s).waits,((W.σ.status s).id:Int),((W.σ.status s).level:Int),((W.σ.status s).state:Int),((W.σ.status s).begin_:Int),(W.σ.status s).end_,((W.σ.status s).ops:Int),?_,rfl⟩;unfold statusCs;rw[hbz]
 obtain⟨lk,hlk⟩:∃ lk,lk=W.σ.looks:=⟨_,rfl⟩
 obtain⟨lk1,hlk1⟩:∃ lk1,lk1=σ1.looks:=⟨_,rfl⟩
 rw[←hlk] at hl1 hl2 hl3;rw[←hlk1] at hl1 hl2;obtain⟨zwt,za1,za2,za3,za4,zen,za6,hst1⟩:∃ zwt za1 za2 za3 za4,∃ zen:Nat,∃ za6,statusCs (σ1.status s)=#[.bool true,.bool false,.bool zwt,zi za1,zi za2,zi za3,zu za4,zu (zen:Int),zi za6]:=by
  refine⟨(σ1.status s).waits,((σ1.status s).id:Int),((σ1.status s).level:Int),((σ1.status s).state:Int),((σ1.status s).begin_:Int),(σ1.status s).end_,((σ1.status s).ops:Int),?_⟩;unfold statusCs;rw[hnl,hnb]
 clear hnl hnb hbz hen;obtain⟨o,ho⟩:∃ o,o=W.ops.getD s default:=⟨_,rfl⟩
 rw[←ho];have hl:=h.dl;have hln:=h.dlen;obtain⟨⟨pd,pv⟩,hk,hpd⟩:∃ q,B.ds[k]? =some q∧q.1=p:=by
  rw[←hl,List.getElem?_map] at hp
  cases hq:B.ds[k]? with
  |none=>rw[hq] at hp;cases hp
  |some q=>rw[hq] at hp;exact⟨q,rfl,Option.some.inj hp⟩
 obtain rfl:pd=p:=hpd;obtain⟨on,hon⟩:∃ on,on=pd.ops.length:=⟨_,rfl⟩
 have hrow:w.ownsRow 0 155 9 pv pd.ops.length (B.cs k):=(h.opsRow hk).1;rw[←hon] at hrow hpl;obtain⟨oa,oc,rfl,_⟩:=Ow.own_form hrow;clear hrow;obtain⟨gd,cap,hvd,hc1,hc2,hgm,_⟩:=h.deal hk;have hkl:k<W.deals.length:=(List.getElem?_eq_some_iff.1 hp).1;obtain⟨n,hn⟩:∃ n,n=W.deals.length:=⟨_,rfl⟩
 rw[hln,←hn] at hvd hc1;have E:Hid (∀ ks w1,WK B be w0 ks {W with σ:=σ1} w1→w1.cell? ⟨B.bw,1,none⟩=some (.slice (some ⟨gd,0,none⟩) n cap)∧w1.cell? ⟨B.bw,2+s,none⟩=some (zi ((k:Int)+1))∧w1.cell? ⟨gd,k*6+5,none⟩=some (.slice oa on oc)∧w1.cell? ⟨B.bw,10+s*4,none⟩=some (zi (o.kind:Int))∧w1.cell? ⟨B.bw,10+s*4+1,none⟩=some (zi (o.key:Int))∧w1.cell? ⟨B.bw,10+s*4+2,none⟩=some (zi (o.hi:Int))∧w1.cell? ⟨B.bw,10+s*4+3,none⟩=some (zi (o.value:Int))):=fun ks w1 q=>by
  have y1:=(q.wcell 1 rfl).1;have y2:=(q.wcell (2+s) (worldCs_id (W:={W with σ:=σ1}) q.i8 hs)).1;rw[hvd] at y1;rw[show ({W with σ:=σ1}:Wd).ids.getD s 0=k+1 from hid] at y2;obtain⟨gd',cap',hv',_,_,_,hf⟩:=q.deal hk;rw[hln,←hn,hvd] at hv';simp only[Value.slice.injEq,Option.some.injEq,Addr.mk.injEq,and_true,true_and] at hv';obtain⟨rfl,rfl⟩:=hv';have y5:=(hf 5 (.slice oa on oc) (by omega) rfl).1;have yo:∀ j (v:Value),j<4→(opC o)[j]? =some v→w1.cell? ⟨B.bw,10+(s*4+j),none⟩=some v:=fun j v hj hv=>(q.wcell _ ((worldCs_op q.i8 q.o8 hs hj).trans (by rw[show ({W with σ:=σ1}:Wd).ops.getD s default=o from ho.symm];exact hv))).1
  exact⟨y1,y2,y5,yo 0 _ (by omega) rfl,yo 1 _ (by omega) rfl,yo 2 _ (by omega) rfl,yo 3 _ (by omega) rfl⟩
 have HAD1 : Hid (∀ ks w1 va vn vc, WK B be w0 ks { W with σ := σ1 } w1 → Kept.row 2 (.slice va vn vc) (pairCs r.pairs) ∈ ks → ∀ w2 v' w', Below w1.heap.size w1 w2 → w'.ownsRow 0 155 9 v' (on + 1) (B.cs k ++ [zi (o.kind : Int), zi (o.key : Int), zi (o.hi : Int), zi (o.value : Int), zi (r.e : Int), zi (r.value : Int), .slice va vn vc, zi 0, zi (r.reason : Int)]) → w2.grownBy w' (Value.slice oa on oc).ownBlock → (v'.ownBlock = (Value.slice oa on oc).ownBlock ∨ ∀ g, v'.ownBlock = some g → w2.heap.size ≤ g) →
     w'.cell? ⟨gd,k*6+5,none⟩=some (.slice oa on oc)∧w'.frozen? ⟨gd,k*6+5,none⟩=false∧(∀ a v,a.block<w1.heap.size→(Value.slice oa on oc).ownBlock≠some a.block→w1.cell? a=some v→w'.cell? a=some v)∧
     ∃ B',B'.bw=B.bw∧WK B' be w0 ks {W with σ:=σ1,deals:=W.deals.set k {pd with ops:=pd.ops++[(o,r)]}} (w'.setCell ⟨gd,k*6+5,none⟩ v')):=fun ks w1 va vn vc q hm w2 v' w' hb ho hg h3=>by
  have ho':w'.ownsRow 0 155 9 v' (pd.ops.length+1) (B.cs k++callsC o r (.slice va vn vc)):=by
   rw[←hon];unfold callsC opC;rw[hov];exact ho
  have hvd':=hvd;rw[hn,←hln] at hvd';exact q.addOp hk o r _ hm hb ho' hg h3 hvd'
 have HOR1:Hid (∀ ks w1,WK B be w0 ks {W with σ:=σ1} w1→w1.ownsRow 0 155 9 (.slice oa on oc) on (B.cs k)∧on<100000):=fun ks w1 q=>⟨by have:=(q.opsRow hk).1;rw[←hon] at this;exact this,hpl⟩
 have HNE:Hid (∀ ks w1 g ob,WK B be w0 ks {W with σ:=σ1} w1→Kept.obj g ob∈ks→(gd≠B.bw∧gd≠g∧(Value.slice oa on oc).ownBlock≠some B.bw∧(Value.slice oa on oc).ownBlock≠some g)∧B.bw<w1.heap.size∧g<w1.heap.size):=fun ks w1 g ob q hm=>by
  obtain⟨A,rfl,l,r',g0,t⟩:=q.ex;have hbw:B.M B.bw=some .eng:=(r'.mem.all .eng).1;have hno:=q.keptNo hm;refine⟨⟨fun e=>?_,fun e=>?_,fun e=>?_,fun e=>?_⟩,r'.lt hbw,lt_of (q.obj hm)⟩
  · rw[e,hbw] at hgm;cases hgm
  · rw[e,hno] at hgm;cases hgm
  · have:=(q.opsRow hk).2 _ e;rw[hbw] at this;cases this
  · have:=(q.opsRow hk).2 _ e;rw[hno] at this;cases this
 clear hc1 hc2;have m2:((k:Int)<0)=False:=by simp
 have m3:decide ((k:Int)<0)=false:=by simp
 have m4:((n:Int)≤(k:Int))=False:=by simp;omega
 have m5:decide ((n:Int)≤(k:Int))=false:=by simp;omega
 have m6:(n≤k)=False:=by simp;omega
 have m7:(k:Int)<(n:Int):=by omega
 have m8:(0:Int)≤(k:Int):=by omega
 have m9:k<n:=by omega
 have kb:k<100000:=by omega
 have m1:IntKind.i64.wrap (k:Int)=(k:Int):=by rw[IntKind.wrap_i64];omega
 clear hid hp hpl hdl hl hln hk hvd hgm hkl hn hon ho;have N1:Hid (∀ ks w1,WK B be w0 ks W w1→Calls Tryz.prog 9 #[.pointer (some ⟨be,0,none⟩),zi (s:Int)] w1 fun e w'=>e=.returned (.agg #[.bool lv,.bool true,.bool wt,zi a1,zi a2,zi a3,zu a4,zu (en:Int),zi a6])∧WK B be w0 ks W w'):=fun ks w1 q=>by
  have hh:=status_wk q s hs;rw[hst] at hh;exact hh
 have N2:Hid (∀ ks w1,WK B be w0 ks W w1→Calls Tryz.prog 7 #[.pointer (some ⟨be,0,none⟩)] w1 fun e w'=>e=.returned (zi (lk:Int))∧w1=w'):=fun ks w1 q=>by
  have hh:=looks_wk q;rw[←hlk] at hh;exact hh
 have N3:Hid (∀ ks w1,WK B be w0 ks W w1→Calls Tryz.prog 23 #[.pointer (some ⟨be,0,none⟩),zi (s:Int)] w1 fun e w'=>∃ va vn vc,e=.returned (.tuple #[.agg #[zi 3,zi (r.e:Int),zi (r.value:Int),.slice va vn vc,zi 0,zi (r.reason:Int)],zi 0])∧WK B be w0 (.row 2 (.slice va vn vc) (pairCs r.pairs)::ks) {W with σ:=σ1} w'):=fun ks w1 q=>by
  refine (step_wk q hs hbe).mono ?_;rintro e w' ⟨va,vn,vc,rfl,hvn,q⟩;rw[hov];exact⟨va,vn,vc,rfl,q⟩
 have N4:Hid (∀ ks w1,WK B be w0 ks {W with σ:=σ1} w1→Calls Tryz.prog 7 #[.pointer (some ⟨be,0,none⟩)] w1 fun e w'=>e=.returned (zi (lk1:Int))∧w1=w'):=fun ks w1 q=>by
  have hh:=looks_wk q;rw[←hlk1] at hh;exact hh
 have N5:Hid (∀ ks w1,WK B be w0 ks {W with σ:=σ1} w1→Calls Tryz.prog 9 #[.pointer (some ⟨be,0,none⟩),zi (s:Int)] w1 fun e w'=>e=.returned (.agg #[.bool true,.bool false,.bool zwt,zi za1,zi za2,zi za3,zu za4,zu (zen:Int),zi za6])∧WK B be w0 ks {W with σ:=σ1} w'):=fun ks w1 q=>by
  have hh:=status_wk q s hs;rw[hst1] at hh;exact hh
 have C:Hid (∀ σ' ks w1,WK B be w0 ks {W with σ:=σ'} w1→w1.cell? ⟨B.bw,0,none⟩=some (.pointer (some ⟨be,0,none⟩))):=fun σ' ks w1 q=>(q.wcell 0 rfl).1
 have O1:Hid (∀ ks W1 w1 g,WK B be w0 (.obj g (.cells #[.bool lv,.bool true,.bool wt,zi a1,zi a2,zi a3,zu a4,zu (en:Int),zi a6] 40)::ks) W1 w1→w1.cell? ⟨g,1,none⟩=some (.bool true)∧w1.cell? ⟨g,7,none⟩=some (zu (en:Int))):=fun ks W1 w1 g q=>by
  have hb:=q.obj (List.mem_cons_self);exact⟨obj_cell hb 1 rfl,obj_cell hb 7 rfl⟩
 have b0:((s:Int)<0)=False:=by simp
 have b1:((7:Int)<(s:Int))=False:=by simp;omega
 have b2:(0:Int)≤(s:Int):=by omega
 have b3:(s:Int)<8:=by omega
 have b4:decide ((s:Int)<0)=false:=by simp
 have b5:decide ((7:Int)<(s:Int))=false:=by simp;omega
 have b6:(7<s)=False:=by simp;omega
 have n1:IntKind.i64.wrap ((lk:Int)+1)=(lk:Int)+1:=by rw[IntKind.wrap_i64];omega
 have c1:((lk:Int)+1<(lk1:Int))=False:=by simp;omega
 have c2:decide ((lk:Int)+1<(lk1:Int))=false:=by simp;omega
 have c3:((lk1:Int)<(lk:Int))=False:=by simp;omega
 have c4:decide ((lk1:Int)<(lk:Int))=false:=by simp;omega
 have c5:(lk1<lk)=False:=by simp;omega
 have m0:wrap64 (k:Int)=(k:Int):=by unfold wrap64;omega
 clear kb;have T0:=zH h;have x0:=C.out W.σ _ _ T0.out;clear hst hst1 hlk hlk1 hl1 hl2 hl3 hbe h hs hov;go_enter Tryz.func31,Tryz.ntmps31;go_upto_region 11 with (first|(go_at_call 9;refine (N1.out _ _ T0.out).mono ?_;clear T0;rintro e w1 ⟨rfl,q⟩;have x1:=C.out W.σ _ _ (q.alloc (.cells #[.bool lv,.bool true,.bool wt,zi a1,zi a2,zi a3,zu a4,zu (en:Int),zi a6] 40));have T1:=zH (q.alloc (.cells #[.bool lv,.bool true,.bool wt,zi a1,zi a2,zi a3,zu a4,zu (en:Int),zi a6] 40));clear q)|(go_at_call 7;refine (N2.out _ _ T1.out).mono ?_;rintro e w' ⟨rfl,rfl⟩;have T2:=T1;clear T1)|(go_at_call 23;refine (N3.out _ _ T2.out).mono ?_;clear T2;rintro e w3 ⟨va,vn,vc,rfl,q⟩;have q2:=q.alloc (.cells #[zi 3,zi (r.e:Int),zi (r.value:Int),.slice va vn vc,zi 0,zi (r.reason:Int)] 65);have x3:=C.out σ1 _ _ q2;obtain⟨y1,y2⟩:=O1.out _ _ _ _ q2.tail.tail;have T3:=zH q2;clear q q2)|(go_at_call 7;refine (N4.out _ _ T3.out).mono ?_;rintro e w' ⟨rfl,rfl⟩)|(go_at_call 9;refine (N5.out _ _ T3.out).mono ?_;clear T3;rintro e w6 ⟨rfl,q⟩;have q2:=q.alloc (.cells #[.bool true,.bool false,.bool zwt,zi za1,zi za2,zi za3,zu za4,zu (zen:Int),zi za6] 40);have T6:=zH q2;clear q q2))
 generalize hv6:w6.alloc _=v6 at*;generalize w1.heap.size=g1 at*;generalize w3.heap.size=g2 at*;generalize w6.heap.size=g3 at*;have x6:=C.out σ1 _ _ T6.out;have k3:=T6.out.obj List.mem_cons_self;have k2:=T6.out.tail.obj List.mem_cons_self;have k1:=T6.out.tail.tail.tail.obj List.mem_cons_self;have z30:=obj_cell k3 0 rfl;have z31:=obj_cell k3 1 rfl;have z32:=obj_cell k3 2 rfl;have z20:=obj_cell k2 0 rfl;have z21:=obj_cell k2 1 rfl;have z22:=obj_cell k2 2 rfl;have z23:=obj_cell k2 3 rfl;have z24:=obj_cell k2 4 rfl;have z25:=obj_cell k2 5 rfl;have z17:=obj_cell k1 7 rfl;clear k1 k2 k3 hv6 N1 N2 N3 N4 N5 C O1 b0 b1 b4 b5 b6 c1 c2 c3 c4 c5 n1;obtain⟨y1,y2,y5,y6,y7,y8,y9⟩:=E.out _ _ T6.out;go_upto_region 18 with fail
 have S0:v6.drew.cell? ⟨B.bw,1,none⟩=some (.slice (some ⟨gd,0,none⟩) n cap)∧v6.drew.cell? ⟨B.bw,10+s*4,none⟩=some (zi (o.kind:Int))∧v6.drew.cell? ⟨B.bw,10+s*4+1,none⟩=some (zi (o.key:Int))∧v6.drew.cell? ⟨B.bw,10+s*4+2,none⟩=some (zi (o.hi:Int))∧v6.drew.cell? ⟨B.bw,10+s*4+3,none⟩=some (zi (o.value:Int))∧v6.drew.cell? ⟨g2,1,none⟩=some (zi (r.e:Int))∧v6.drew.cell? ⟨g2,2,none⟩=some (zi (r.value:Int))∧v6.drew.cell? ⟨g2,3,none⟩=some (.slice va vn vc)∧v6.drew.cell? ⟨g2,4,none⟩=some (zi 0)∧v6.drew.cell? ⟨g2,5,none⟩=some (zi (r.reason:Int)):=⟨y1,y6,y7,y8,y9,z21,z22,z23,z24,z25⟩
 have T7:=zH T6.out.drew;have HOR:=zH (HOR1.out _ _ (T7.out.alloc (.cells #[zi (o.kind:Int),zi (o.key:Int),zi (o.hi:Int),zi (o.value:Int),zi (r.e:Int),zi (r.value:Int),.slice va vn vc,zi 0,zi (r.reason:Int)] 155)));have HAD:=zH (fun v' w'=>HAD1.out _ _ va vn vc T7.out (List.mem_cons_of_mem _ (List.mem_cons_of_mem _ List.mem_cons_self)) (v6.drew.alloc (.cells #[zi (o.kind:Int),zi (o.key:Int),zi (o.hi:Int),zi (o.value:Int),zi (r.e:Int),zi (r.value:Int),.slice va vn vc,zi 0,zi (r.reason:Int)] 155)) v' w' ((Below.refl _ _).alloc (Nat.le_refl _) _));obtain⟨e1,e2,e3⟩:=HNE.out _ _ g2 _ T7.out (List.mem_cons_of_mem _ List.mem_cons_self);have GN:=zH e1;have GL:=zH (zA e2 e3);clear e1 e2 e3 HNE HAD1 HOR1 T6 z20 z21 z22 z23 z24 z25 z17 z30 z31 z32 y1 y2 y5 y6 y7 y8 y9 x6 m1 m0;have y5:v6.drew.cell? ⟨gd,k*6+5,none⟩=some (.slice oa on oc):=(E.out _ _ T7.out).2.2.1;have y5a:∀ ob,(v6.drew.alloc ob).cell? ⟨gd,k*6+5,none⟩=some (.slice oa on oc):=fun ob=>cell_alloc_keep y5
 clear E;refine wp_region_held_drew (S:=fun w'=>w'.cell? ⟨B.bw,1,none⟩=some (.slice (some ⟨gd,0,none⟩) n cap)∧w'.cell? ⟨B.bw,10+s*4,none⟩=some (zi (o.kind:Int))∧w'.cell? ⟨B.bw,10+s*4+1,none⟩=some (zi (o.key:Int))∧w'.cell? ⟨B.bw,10+s*4+2,none⟩=some (zi (o.hi:Int))∧w'.cell? ⟨B.bw,10+s*4+3,none⟩=some (zi (o.value:Int))∧w'.cell? ⟨g2,1,none⟩=some (zi (r.e:Int))∧w'.cell? ⟨g2,2,none⟩=some (zi (r.value:Int))∧w'.cell? ⟨g2,3,none⟩=some (.slice va vn vc)∧w'.cell? ⟨g2,4,none⟩=some (zi 0)∧w'.cell? ⟨g2,5,none⟩=some (zi (r.reason:Int))) (by kernel_rfl) ?_ (fun hHeld=>?_)
 · (try dsimp only);exact S0
 generalize v6.drew=vd at*;refine zqt (i:=0) rfl hHeld ?_
 (try simp only[zqa,zqb,zqc,Act.put,zqd,zqe,zqf])
 refine zqt (i:=1) rfl hHeld ?_
 (try simp only[zqa,zqb,zqc,Act.put,zqd,zqe,zqf])
 refine zqt (i:=2) rfl hHeld ?_
 (try simp only[zqa,zqb,zqc,Act.put,zqd,zqe,zqf])
 refine zqt (i:=3) rfl hHeld ?_
 (try simp only[zqa,zqb,zqc,Act.put,zqd,zqe,zqf])
 refine zqt (i:=4) rfl hHeld ?_
 (try simp only[zqa,zqb,zqc,Act.put,zqd,zqe,zqf])
 refine zqt (i:=5) rfl hHeld ?_
 (try simp only[zqa,zqb,zqc,Act.put,zqd,zqe,zqf])
 refine zqt (i:=6) rfl hHeld ?_
 (try simp only[zqa,zqb,zqc,Act.put,zqd,zqe,zqf])
 refine zqt (i:=7) rfl hHeld ?_
 (try simp only[zqa,zqb,zqc,Act.put,zqd,zqe,zqf])
 refine zqt (i:=8) rfl hHeld ?_
 (try simp only[zqa,zqb,zqc,Act.put,zqd,zqe,zqf])
 refine zqt (i:=9) rfl hHeld ?_
 (try simp only[zqa,zqb,zqc,Act.put,zqd,zqe,zqf])
 refine zqt (i:=10) rfl hHeld ?_
 (try simp only[zqa,zqb,zqc,Act.put,zqd,zqe,zqf])
 refine zqt (i:=11) rfl hHeld ?_
 (try simp only[zqa,zqb,zqc,Act.put,zqd,zqe,zqf])
 refine zqt (i:=13) rfl hHeld ?_
 (try simp only[zqa,zqb,zqc,Act.put,zqd,zqe,zqf])
 refine zqt (i:=14) rfl hHeld ?_
 (try simp only[zqa,zqb,zqc,Act.put,zqd,zqe,zqf])
 refine zqt (i:=15) rfl hHeld ?_
 (try simp only[zqa,zqb,zqc,Act.put,zqd,zqe,zqf])
 refine zqt (i:=16) rfl hHeld ?_
 (try simp only[zqa,zqb,zqc,Act.put,zqd,zqe,zqf])
 refine zqt (i:=17) rfl hHeld ?_
 (try simp only[zqa,zqb,zqc,Act.put,zqd,zqe,zqf])
 refine zqt (i:=18) rfl hHeld ?_
 (try simp only[zqa,zqb,zqc,Act.put,zqd,zqe,zqf])
 refine zqt (i:=19) rfl hHeld ?_
 (try simp only[zqa,zqb,zqc,Act.put,zqd,zqe,zqf])
 refine zqt (i:=20) rfl hHeld ?_
 (try simp only[zqa,zqb,zqc,Act.put,zqd,zqe,zqf])
 refine zqt (i:=21) rfl hHeld ?_
 (try simp only[zqa,zqb,zqc,Act.put,zqd,zqe,zqf])
 refine wpAnyH_ready (rs:=[12,22]) (by kernel_rfl) (by simp) ?_;refine AllReadyH.cons (o:=_) rfl (fun K hK=>?_) (AllReadyH.cons (o:=_) rfl (fun K hK=>?_) AllReadyH.nil)
 focus (
  go_simp
  refine hK.out _ _ ?_ (fun hHeld=>?_)
  · (try dsimp only);exact hHeld
  clear hK K
  (try simp only[zqa,zqb,zqc,Act.put,zqd,zqe,zqf])
  refine wpAnyH_ready (rs:=[22]) (by kernel_rfl) (by simp) ?_
  refine AllReadyH.cons (o:=_) rfl (fun K hK=>?_) AllReadyH.nil
  go_simp
  refine hK.out _ _ ?_ (fun hHeld=>?_)
  · (try dsimp only);exact⟨cell_alloc_keep hHeld.1,cell_alloc_keep hHeld.2.1,cell_alloc_keep hHeld.2.2.1,cell_alloc_keep hHeld.2.2.2.1,cell_alloc_keep hHeld.2.2.2.2.1,cell_alloc_keep hHeld.2.2.2.2.2.1,cell_alloc_keep hHeld.2.2.2.2.2.2.1,cell_alloc_keep hHeld.2.2.2.2.2.2.2.1,cell_alloc_keep hHeld.2.2.2.2.2.2.2.2.1,cell_alloc_keep hHeld.2.2.2.2.2.2.2.2.2⟩
  clear hK K
  (try simp only[zqa,zqb,zqc,Act.put,zqd,zqe,zqf])
 )
 rotate_left
 focus (
  go_simp
  refine hK.out _ _ ?_ (fun hHeld=>?_)
  · (try dsimp only);exact⟨cell_alloc_keep hHeld.1,cell_alloc_keep hHeld.2.1,cell_alloc_keep hHeld.2.2.1,cell_alloc_keep hHeld.2.2.2.1,cell_alloc_keep hHeld.2.2.2.2.1,cell_alloc_keep hHeld.2.2.2.2.2.1,cell_alloc_keep hHeld.2.2.2.2.2.2.1,cell_alloc_keep hHeld.2.2.2.2.2.2.2.1,cell_alloc_keep hHeld.2.2.2.2.2.2.2.2.1,cell_alloc_keep hHeld.2.2.2.2.2.2.2.2.2⟩
  clear hK K
  (try simp only[zqa,zqb,zqc,Act.put,zqd,zqe,zqf])
  refine wpAnyH_ready (rs:=[12]) (by kernel_rfl) (by simp) ?_
  refine AllReadyH.cons (o:=_) rfl (fun K hK=>?_) AllReadyH.nil
  go_simp
  refine hK.out _ _ ?_ (fun hHeld=>?_)
  · (try dsimp only);exact hHeld
  clear hK K
  (try simp only[zqa,zqb,zqc,Act.put,zqd,zqe,zqf])
 )
 rotate_left
 all_goals (
  refine wpAnyH_ready (rs:=[23]) (by kernel_rfl) (by simp) ?_
  refine AllReadyH.cons (o:=_) rfl (fun K hK=>?_) AllReadyH.nil
  rw[if_pos (by rfl)]
  refine Ow.wp_append_to _ (.tmp 154) (.tmp 164) 128 rfl 0 155 ii _ 9 88 Tryz.underlying128 hii hz0 hz1 hz2 rfl (by decide) (.slice oa on oc) on (B.cs k) rfl (by exact HOR.out.1) ⟨vd.heap.size,0,none⟩ 1 1 (by omega) [zi (o.kind:Int),zi (o.key:Int),zi (o.hi:Int),zi (o.value:Int),zi (r.e:Int),zi (r.value:Int),.slice va vn vc,zi 0,zi (r.reason:Int)] rfl rfl (fun j u hu=>Ow.new_row vd [zi (o.kind:Int),zi (o.key:Int),zi (o.hi:Int),zi (o.value:Int),zi (r.e:Int),zi (r.value:Int),.slice va vn vc,zi 0,zi (r.reason:Int)] _ vd.heap.size (by simp) j u hu) (by intro u hu;simp at hu;rcases hu with rfl|rfl|rfl|rfl|rfl|rfl|rfl|rfl|rfl<;>rfl) (by have:=HOR.out.2;unfold maxLen;omega) (by have:=HOR.out.2;omega) (Nat.zero_le _) ?_;intro v' w8 q1 q2 q3;obtain⟨r1,r2,r3,B',r4,r5⟩:=HAD.out v' w8 q1 q2 q3;obtain⟨av8,cp8,rfl,_⟩:=Ow.own_form q1;have T8:=zH (zA r4 r5);clear q1 q2 q3 r4 r5
  refine hK.out _ _ ?_ (fun hHeld=>?_)
  · (try dsimp only);exact⟨r3 _ _ (by exact GL.out.1) (by exact GN.out.2.2.1) S0.1,r3 _ _ (by exact GL.out.1) (by exact GN.out.2.2.1) S0.2.1,r3 _ _ (by exact GL.out.1) (by exact GN.out.2.2.1) S0.2.2.1,r3 _ _ (by exact GL.out.1) (by exact GN.out.2.2.1) S0.2.2.2.1,r3 _ _ (by exact GL.out.1) (by exact GN.out.2.2.1) S0.2.2.2.2.1,r3 _ _ (by exact GL.out.2) (by exact GN.out.2.2.2) S0.2.2.2.2.2.1,r3 _ _ (by exact GL.out.2) (by exact GN.out.2.2.2) S0.2.2.2.2.2.2.1,r3 _ _ (by exact GL.out.2) (by exact GN.out.2.2.2) S0.2.2.2.2.2.2.2.1,r3 _ _ (by exact GL.out.2) (by exact GN.out.2.2.2) S0.2.2.2.2.2.2.2.2.1,r3 _ _ (by exact GL.out.2) (by exact GN.out.2.2.2) S0.2.2.2.2.2.2.2.2.2⟩
  clear hK K
  (try simp only[zqa,zqb,zqc,Act.put,zqd,zqe,zqf])
  refine zqt (i:=24) rfl hHeld ?_
  (try simp only[zqa,zqb,zqc,Act.put,zqd,zqe,zqf])
  refine zqt (i:=25) rfl hHeld ?_
  (try simp only[zqa,zqb,zqc,Act.put,zqd,zqe,zqf])
  refine wpAnyH_ready (rs:=[26]) (by kernel_rfl) (by simp) ?_
  refine AllReadyH.cons (o:=_) rfl (fun K hK=>?_) AllReadyH.nil
  go_simp
  refine hK.out _ _ ?_ (fun hHeld=>?_)
  · (try dsimp only);exact⟨cell_set_keep (by exact GN.out.1) hHeld.1,cell_set_keep (by exact GN.out.1) hHeld.2.1,cell_set_keep (by exact GN.out.1) hHeld.2.2.1,cell_set_keep (by exact GN.out.1) hHeld.2.2.2.1,cell_set_keep (by exact GN.out.1) hHeld.2.2.2.2.1,cell_set_keep (by exact GN.out.2.1) hHeld.2.2.2.2.2.1,cell_set_keep (by exact GN.out.2.1) hHeld.2.2.2.2.2.2.1,cell_set_keep (by exact GN.out.2.1) hHeld.2.2.2.2.2.2.2.1,cell_set_keep (by exact GN.out.2.1) hHeld.2.2.2.2.2.2.2.2.1,cell_set_keep (by exact GN.out.2.1) hHeld.2.2.2.2.2.2.2.2.2⟩
  clear hK K
  (try simp only[zqa,zqb,zqc,Act.put,zqd,zqe,zqf])
  refine wpAnyH_done (by kernel_rfl) ?_ _
 )
 all_goals (
  generalize w8.setCell _ _=w9 at*
  have k3:=T8.out.2.obj List.mem_cons_self
  have z30:=obj_cell k3 0 rfl
  have z31:=obj_cell k3 1 rfl
  clear k3 S0 T7 HOR HAD GN GL y5 y5a r1 r2 r3 hHeld
  go_wp2
  go_ret
  exact⟨rfl,[_,_,_,_],B',T8.out.1,T8.out.2⟩
 )
theorem wstep_done {B:WBook} {be:Nat} {w0 w:World} {ks:List Kept} {W:Wd} (h:WK B be w0 ks W w) {s:Nat} (hs:s<8) {σ1:St} {r:Res} (hbe:oneStep W.σ s=some (σ1,3,r)) (hbz:(W.σ.status s).busy=true) (hl1:σ1.looks≤W.σ.looks+1) (hl2:W.σ.looks≤σ1.looks) (hl3:W.σ.looks<1000000000000000) (hov:r.over=3) {k:Nat} (hid:W.ids.getD s 0=k+1) {p:Dl} (hp:W.deals[k]? =some p) (hdl:W.deals.length<100000) (hnz:σ1.status s={}):
 Calls Tryz.prog 31 #[.pointer (some ⟨B.bw,0,none⟩),zi (s:Int)] w fun e w'=>e=.returned (.bool true)∧∃ ks' B',B'.bw=B.bw∧WK B' be w0 (ks'++ks) {W with σ:=σ1,deals:=W.deals.set k {p with state:=3,end_:=(W.σ.status s).end_},ids:=W.ids.set s 0} w':=by
 obtain⟨lv,wt,a1,a2,a3,a4,en,a6,hst,hen⟩:∃ lv wt a1 a2 a3 a4,∃ en:Nat,∃ a6,statusCs (W.σ.status s)=#[.bool lv,.bool true,.bool wt,zi a1,zi a2,zi a3,zu a4,zu (en:Int),zi a6]∧en=(W.σ.status s).end_:=by
  refine⟨(W.σ.status s).live,(W.σ.status s).waits,((W.σ.status s).id:Int),((W.σ.status s).level:Int),((W.σ.status s).state:Int),((W.σ.status s).begin_:Int),(W.σ.status s).end_,((W.σ.status s).ops:Int),?_,rfl⟩;unfold statusCs;rw[hbz]
 obtain⟨lk,hlk⟩:∃ lk,lk=W.σ.looks:=⟨_,rfl⟩
 obtain⟨lk1,hlk1⟩:∃ lk1,lk1=σ1.looks:=⟨_,rfl⟩
 rw[←hlk] at hl1 hl2 hl3;rw[←hlk1] at hl1 hl2;have hst1:statusCs (σ1.status s)=#[.bool false,.bool false,.bool false,zi 0,zi 0,zi 0,zu 0,zu 0,zi 0]:=by rw[hnz];rfl
 rw[←hen];clear hnz hbz hen;have hl:=h.dl;have hln:=h.dlen;obtain⟨⟨pd,pv⟩,hk,hpd⟩:∃ q,B.ds[k]? =some q∧q.1=p:=by
  rw[←hl,List.getElem?_map] at hp
  cases hq:B.ds[k]? with
  |none=>rw[hq] at hp;cases hp
  |some q=>rw[hq] at hp;exact⟨q,rfl,Option.some.inj hp⟩
 obtain rfl:pd=p:=hpd;obtain⟨gd,cap,hvd,_,_,hgm,_⟩:=h.deal hk;have hkl:k<W.deals.length:=(List.getElem?_eq_some_iff.1 hp).1;obtain⟨n,hn⟩:∃ n,n=W.deals.length:=⟨_,rfl⟩
 have hvd0:=hvd;rw[hln,←hn] at hvd;have E:Hid (∀ B1 ks W1 w1,B1.bw=B.bw→B1.vd=B.vd→WK B1 be w0 ks W1 w1→w1.cell? ⟨B.bw,1,none⟩=some (.slice (some ⟨gd,0,none⟩) n cap)):=fun B1 ks W1 w1 e1 e2 q=>by
  have y1:=(q.wcell 1 rfl).1;rw[e1,e2,hvd] at y1;exact y1
 have E2:Hid (∀ B1 ks W1 w1,B1.bw=B.bw→W1.ids=W.ids→WK B1 be w0 ks W1 w1→w1.cell? ⟨B.bw,2+s,none⟩=some (zi ((k:Int)+1))∧w1.frozen? ⟨B.bw,2+s,none⟩=false):=fun B1 ks W1 w1 e1 e2 q=>by
  have y2:=q.wcell (2+s) (worldCs_id (W:=W1) q.i8 hs);rw[e1,e2,hid] at y2;exact y2
 have F1:Hid (∀ ks w1,WK B be w0 ks {W with σ:=σ1} w1→w1.cell? ⟨gd,k*6+2,none⟩=some (i64 pd.state)∧w1.frozen? ⟨gd,k*6+2,none⟩=false∧WK {B with ds:=B.ds.set k ({pd with state:=3},pv)} be w0 ks {W with σ:=σ1,deals:=W.deals.set k {pd with state:=3}} (w1.setCell ⟨gd,k*6+2,none⟩ (zi 3))):=fun ks w1 q=>by
  obtain⟨gd',cap',hv',_,_,_,hf⟩:=q.deal hk;rw[hvd0] at hv';simp only[Value.slice.injEq,Option.some.injEq,Addr.mk.injEq,and_true,true_and] at hv';obtain⟨rfl,rfl⟩:=hv';obtain⟨f1,f2⟩:=hf 2 (i64 pd.state) (by omega) rfl;exact⟨f1,f2,q.setDeal hk (j:=2) (by omega) (zi 3) {pd with state:=3} rfl rfl hvd0⟩
 have F2:Hid (∀ ks w1,WK {B with ds:=B.ds.set k ({pd with state:=3},pv)} be w0 ks {W with σ:=σ1,deals:=W.deals.set k {pd with state:=3}} w1→w1.cell? ⟨gd,k*6+4,none⟩=some (u64 pd.end_)∧w1.frozen? ⟨gd,k*6+4,none⟩=false∧WK {B with ds:=B.ds.set k ({pd with state:=3,end_:=en},pv)} be w0 ks {W with σ:=σ1,deals:=W.deals.set k {pd with state:=3,end_:=en}} (w1.setCell ⟨gd,k*6+4,none⟩ (zu (en:Int)))):=fun ks w1 q=>by
  have hk2:({B with ds:=B.ds.set k ({pd with state:=3},pv)}:WBook).ds[k]? =some ({pd with state:=3},pv):=by
   show (B.ds.set k _)[k]? =_;rw[List.getElem?_set_self (by rw[hln];exact hkl)]
  have hvd2:({B with ds:=B.ds.set k ({pd with state:=3},pv)}:WBook).vd=.slice (some ⟨gd,0,none⟩) (B.ds.set k ({pd with state:=3},pv)).length cap:=by rw[List.length_set];exact hvd0
  obtain⟨gd',cap',hv',_,_,_,hf⟩:=q.deal hk2;rw[hvd2] at hv';simp only[Value.slice.injEq,Option.some.injEq,Addr.mk.injEq,and_true,true_and] at hv';obtain⟨rfl,rfl⟩:=hv';obtain⟨f1,f2⟩:=hf 4 (u64 pd.end_) (by omega) rfl;have h9:=q.setDeal hk2 (j:=4) (by omega) (zu (en:Int)) {pd with state:=3,end_:=en} rfl rfl hvd2;simp only[List.set_set] at h9;exact⟨f1,f2,h9⟩
 have F3:Hid (∀ B1 ks W1 w1,B1.bw=B.bw→WK B1 be w0 ks W1 w1→WK B1 be w0 ks {W1 with ids:=W1.ids.set s 0} (w1.setCell ⟨B.bw,2+s,none⟩ (zi 0))):=fun B1 ks W1 w1 e1 q=>by
  have:=q.putId hs 0;rw[e1] at this;exact this
 have HNE:Hid (∀ ks w1 g g' ob ob',WK B be w0 ks {W with σ:=σ1} w1→Kept.obj g ob∈ks→Kept.obj g' ob'∈ks→gd≠B.bw∧gd≠g∧gd≠g'):=fun ks w1 g g' ob ob' q hm hm'=>by
  have hbw:B.M B.bw=some .eng:=by obtain⟨A,rfl,l,r',g0,t⟩:=q.ex;exact (r'.mem.all .eng).1
  have hno:=q.keptNo hm;have hno':=q.keptNo hm';refine⟨fun e=>?_,fun e=>?_,fun e=>?_⟩
  · rw[e,hbw] at hgm;cases hgm
  · rw[e,hno] at hgm;cases hgm
  · rw[e,hno'] at hgm;cases hgm
 have m2:((k:Int)<0)=False:=by simp
 have m3:decide ((k:Int)<0)=false:=by simp
 have m4:((n:Int)≤(k:Int))=False:=by simp;omega
 have m5:decide ((n:Int)≤(k:Int))=false:=by simp;omega
 have m6:(n≤k)=False:=by simp;omega
 have m7:(k:Int)<(n:Int):=by omega
 have m8:(0:Int)≤(k:Int):=by omega
 have m9:k<n:=by omega
 have kb:k<100000:=by omega
 have m1:IntKind.i64.wrap (k:Int)=(k:Int):=by rw[IntKind.wrap_i64];omega
 clear hid hp hdl hl hln hk hvd hvd0 hgm hkl hn;have N1:Hid (∀ ks w1,WK B be w0 ks W w1→Calls Tryz.prog 9 #[.pointer (some ⟨be,0,none⟩),zi (s:Int)] w1 fun e w'=>e=.returned (.agg #[.bool lv,.bool true,.bool wt,zi a1,zi a2,zi a3,zu a4,zu (en:Int),zi a6])∧WK B be w0 ks W w'):=fun ks w1 q=>by
  have hh:=status_wk q s hs;rw[hst] at hh;exact hh
 have N2:Hid (∀ ks w1,WK B be w0 ks W w1→Calls Tryz.prog 7 #[.pointer (some ⟨be,0,none⟩)] w1 fun e w'=>e=.returned (zi (lk:Int))∧w1=w'):=fun ks w1 q=>by
  have hh:=looks_wk q;rw[←hlk] at hh;exact hh
 have N3:Hid (∀ ks w1,WK B be w0 ks W w1→Calls Tryz.prog 23 #[.pointer (some ⟨be,0,none⟩),zi (s:Int)] w1 fun e w'=>∃ va vn vc,e=.returned (.tuple #[.agg #[zi 3,zi (r.e:Int),zi (r.value:Int),.slice va vn vc,zi 3,zi (r.reason:Int)],zi 0])∧WK B be w0 (.row 2 (.slice va vn vc) (pairCs r.pairs)::ks) {W with σ:=σ1} w'):=fun ks w1 q=>by
  refine (step_wk q hs hbe).mono ?_;rintro e w' ⟨va,vn,vc,rfl,hvn,q⟩;rw[hov];exact⟨va,vn,vc,rfl,q⟩
 have N4:Hid (∀ ks w1,WK B be w0 ks {W with σ:=σ1} w1→Calls Tryz.prog 7 #[.pointer (some ⟨be,0,none⟩)] w1 fun e w'=>e=.returned (zi (lk1:Int))∧w1=w'):=fun ks w1 q=>by
  have hh:=looks_wk q;rw[←hlk1] at hh;exact hh
 have N5:Hid (∀ ks w1,WK B be w0 ks {W with σ:=σ1} w1→Calls Tryz.prog 9 #[.pointer (some ⟨be,0,none⟩),zi (s:Int)] w1 fun e w'=>e=.returned (.agg #[.bool false,.bool false,.bool false,zi 0,zi 0,zi 0,zu 0,zu 0,zi 0])∧WK B be w0 ks {W with σ:=σ1} w'):=fun ks w1 q=>by
  have hh:=status_wk q s hs;rw[hst1] at hh;exact hh
 have C:Hid (∀ σ' ks w1,WK B be w0 ks {W with σ:=σ'} w1→w1.cell? ⟨B.bw,0,none⟩=some (.pointer (some ⟨be,0,none⟩))):=fun σ' ks w1 q=>(q.wcell 0 rfl).1
 have O1:Hid (∀ ks W1 w1 g,WK B be w0 (.obj g (.cells #[.bool lv,.bool true,.bool wt,zi a1,zi a2,zi a3,zu a4,zu (en:Int),zi a6] 40)::ks) W1 w1→w1.cell? ⟨g,1,none⟩=some (.bool true)∧w1.cell? ⟨g,7,none⟩=some (zu (en:Int))):=fun ks W1 w1 g q=>by
  have hb:=q.obj (List.mem_cons_self);exact⟨obj_cell hb 1 rfl,obj_cell hb 7 rfl⟩
 have b0:((s:Int)<0)=False:=by simp
 have b1:((7:Int)<(s:Int))=False:=by simp;omega
 have b2:(0:Int)≤(s:Int):=by omega
 have b3:(s:Int)<8:=by omega
 have b4:decide ((s:Int)<0)=false:=by simp
 have b5:decide ((7:Int)<(s:Int))=false:=by simp;omega
 have b6:(7<s)=False:=by simp;omega
 have n1:IntKind.i64.wrap ((lk:Int)+1)=(lk:Int)+1:=by rw[IntKind.wrap_i64];omega
 have c1:((lk:Int)+1<(lk1:Int))=False:=by simp;omega
 have c2:decide ((lk:Int)+1<(lk1:Int))=false:=by simp;omega
 have c3:((lk1:Int)<(lk:Int))=False:=by simp;omega
 have c4:decide ((lk1:Int)<(lk:Int))=false:=by simp;omega
 have c5:(lk1<lk)=False:=by simp;omega
 have m0:wrap64 (k:Int)=(k:Int):=by unfold wrap64;omega
 clear kb;have T0:=zH h;have x0:=C.out W.σ _ _ T0.out;clear hst hst1 hlk hlk1 hl1 hl2 hl3 hbe h hs hov;go_enter Tryz.func31,Tryz.ntmps31;go_upto_region 11 with (first|(go_at_call 9;refine (N1.out _ _ T0.out).mono ?_;clear T0;rintro e w1 ⟨rfl,q⟩;have x1:=C.out W.σ _ _ (q.alloc (.cells #[.bool lv,.bool true,.bool wt,zi a1,zi a2,zi a3,zu a4,zu (en:Int),zi a6] 40));have T1:=zH (q.alloc (.cells #[.bool lv,.bool true,.bool wt,zi a1,zi a2,zi a3,zu a4,zu (en:Int),zi a6] 40));clear q)|(go_at_call 7;refine (N2.out _ _ T1.out).mono ?_;rintro e w' ⟨rfl,rfl⟩;have T2:=T1;clear T1)|(go_at_call 23;refine (N3.out _ _ T2.out).mono ?_;clear T2;rintro e w3 ⟨va,vn,vc,rfl,q⟩;have q2:=q.alloc (.cells #[zi 3,zi (r.e:Int),zi (r.value:Int),.slice va vn vc,zi 3,zi (r.reason:Int)] 65);have x3:=C.out σ1 _ _ q2;obtain⟨y1,y2⟩:=O1.out _ _ _ _ q2.tail.tail;have T3:=zH q2;clear q q2)|(go_at_call 7;refine (N4.out _ _ T3.out).mono ?_;rintro e w' ⟨rfl,rfl⟩)|(go_at_call 9;refine (N5.out _ _ T3.out).mono ?_;clear T3;rintro e w6 ⟨rfl,q⟩;have q2:=q.alloc (.cells #[.bool false,.bool false,.bool false,zi 0,zi 0,zi 0,zu 0,zu 0,zi 0] 40);have T6:=zH q2;clear q q2))
 generalize hv6:w6.alloc _=v6 at*;generalize w1.heap.size=g1 at*;generalize w3.heap.size=g2 at*;generalize w6.heap.size=g3 at*;have x6:=C.out σ1 _ _ T6.out;have k3:=T6.out.obj List.mem_cons_self;have k2:=T6.out.tail.obj List.mem_cons_self;have k1:=T6.out.tail.tail.tail.obj List.mem_cons_self;have z30:=obj_cell k3 0 rfl;have z31:=obj_cell k3 1 rfl;have z32:=obj_cell k3 2 rfl;have z20:=obj_cell k2 0 rfl;have z21:=obj_cell k2 1 rfl;have z22:=obj_cell k2 2 rfl;have z23:=obj_cell k2 3 rfl;have z24:=obj_cell k2 4 rfl;have z25:=obj_cell k2 5 rfl;have z17:=obj_cell k1 7 rfl;clear k1 k2 k3 hv6 N1 N2 N3 N4 N5 C O1 b0 b1 b4 b5 b6 c1 c2 c3 c4 c5 n1;have y1:=E.out _ _ _ _ (by rfl) (by rfl) T6.out;obtain⟨y2,y2f⟩:=E2.out _ _ _ _ (by rfl) (by rfl) T6.out;go_upto_region 22 with fail
 have T7:=zH T6.out.drew;have GN:=zH (HNE.out _ _ g2 g1 _ _ T7.out (List.mem_cons_of_mem _ List.mem_cons_self) (List.mem_cons_of_mem _ (List.mem_cons_of_mem _ (List.mem_cons_of_mem _ List.mem_cons_self))));obtain⟨f1,f2,f3⟩:=F1.out _ _ T7.out;have T8:=zH f3;have S0:v6.drew.cell? ⟨B.bw,1,none⟩=some (.slice (some ⟨gd,0,none⟩) n cap)∧v6.drew.cell? ⟨g2,4,none⟩=some (zi 3):=⟨y1,z24⟩
 clear f3 HNE F1 T6 z20 z21 z22 z24 z25 z30 z31 z32 x6 m1 m0 y2 y2f y1 z23 z17;refine wp_region_held_drew (S:=fun w'=>w'.cell? ⟨B.bw,1,none⟩=some (.slice (some ⟨gd,0,none⟩) n cap)∧w'.cell? ⟨g2,4,none⟩=some (zi 3)) (by kernel_rfl) ?_ (fun hHeld=>?_)
 · (try dsimp only);exact S0
 generalize v6.drew=vd at*;refine zqt (i:=0) rfl hHeld ?_
 (try simp only[zqa,zqb,zqc,Act.put,zqd,zqe,zqf])
 refine zqt (i:=1) rfl hHeld ?_
 (try simp only[zqa,zqb,zqc,Act.put,zqd,zqe,zqf])
 refine zqt (i:=2) rfl hHeld ?_
 (try simp only[zqa,zqb,zqc,Act.put,zqd,zqe,zqf])
 refine zqt (i:=3) rfl hHeld ?_
 (try simp only[zqa,zqb,zqc,Act.put,zqd,zqe,zqf])
 refine zqt (i:=4) rfl hHeld ?_
 (try simp only[zqa,zqb,zqc,Act.put,zqd,zqe,zqf])
 refine zqt (i:=5) rfl hHeld ?_
 (try simp only[zqa,zqb,zqc,Act.put,zqd,zqe,zqf])
 refine zqt (i:=6) rfl hHeld ?_
 (try simp only[zqa,zqb,zqc,Act.put,zqd,zqe,zqf])
 refine zqt (i:=7) rfl hHeld ?_
 (try simp only[zqa,zqb,zqc,Act.put,zqd,zqe,zqf])
 refine zqt (i:=8) rfl hHeld ?_
 (try simp only[zqa,zqb,zqc,Act.put,zqd,zqe,zqf])
 refine zqt (i:=9) rfl hHeld ?_
 (try simp only[zqa,zqb,zqc,Act.put,zqd,zqe,zqf])
 refine wpAnyH_ready (rs:=[10]) (by kernel_rfl) (by simp) ?_;refine AllReadyH.cons (o:=_) rfl (fun K hK=>?_) AllReadyH.nil;go_simp;refine hK.out _ _ ?_ (fun hHeld=>?_)
 · (try dsimp only);exact⟨cell_set_keep (by exact GN.out.1) hHeld.1,cell_set_keep (by exact GN.out.2.1) hHeld.2⟩
 clear hK K
 (try simp only[zqa,zqb,zqc,Act.put,zqd,zqe,zqf])
 refine wpAnyH_done (by kernel_rfl) ?_ _;generalize vd.setCell _ _=v8 at*;have y1:=E.out _ _ _ _ (by rfl) (by rfl) T8.out;have z17:=obj_cell (T8.out.tail.tail.tail.obj List.mem_cons_self) 7 rfl;clear hHeld S0 f1 f2 T7;go_upto_region 23 with fail
 obtain⟨f1,f2,f3⟩:=F2.out _ _ T8.out.drew;have T9:=zH f3;have S0:v8.drew.cell? ⟨B.bw,1,none⟩=some (.slice (some ⟨gd,0,none⟩) n cap)∧v8.drew.cell? ⟨g1,7,none⟩=some (zu (en:Int)):=⟨y1,z17⟩
 clear f3 F2 y1 z17;refine wp_region_held_drew (S:=fun w'=>w'.cell? ⟨B.bw,1,none⟩=some (.slice (some ⟨gd,0,none⟩) n cap)∧w'.cell? ⟨g1,7,none⟩=some (zu (en:Int))) (by kernel_rfl) ?_ (fun hHeld=>?_)
 · (try dsimp only);exact S0
 generalize v8.drew=ve at*;refine zqt (i:=0) rfl hHeld ?_
 (try simp only[zqa,zqb,zqc,Act.put,zqd,zqe,zqf])
 refine zqt (i:=1) rfl hHeld ?_
 (try simp only[zqa,zqb,zqc,Act.put,zqd,zqe,zqf])
 refine zqt (i:=2) rfl hHeld ?_
 (try simp only[zqa,zqb,zqc,Act.put,zqd,zqe,zqf])
 refine zqt (i:=3) rfl hHeld ?_
 (try simp only[zqa,zqb,zqc,Act.put,zqd,zqe,zqf])
 refine zqt (i:=4) rfl hHeld ?_
 (try simp only[zqa,zqb,zqc,Act.put,zqd,zqe,zqf])
 refine zqt (i:=5) rfl hHeld ?_
 (try simp only[zqa,zqb,zqc,Act.put,zqd,zqe,zqf])
 refine zqt (i:=6) rfl hHeld ?_
 (try simp only[zqa,zqb,zqc,Act.put,zqd,zqe,zqf])
 refine zqt (i:=7) rfl hHeld ?_
 (try simp only[zqa,zqb,zqc,Act.put,zqd,zqe,zqf])
 refine zqt (i:=8) rfl hHeld ?_
 (try simp only[zqa,zqb,zqc,Act.put,zqd,zqe,zqf])
 refine wpAnyH_ready (rs:=[9]) (by kernel_rfl) (by simp) ?_;refine AllReadyH.cons (o:=_) rfl (fun K hK=>?_) AllReadyH.nil;go_simp;refine hK.out _ _ ?_ (fun hHeld=>?_)
 · (try dsimp only);exact⟨cell_set_keep (by exact GN.out.1) hHeld.1,cell_set_keep (by exact GN.out.2.2) hHeld.2⟩
 clear hK K
 (try simp only[zqa,zqb,zqc,Act.put,zqd,zqe,zqf])
 refine wpAnyH_done (by kernel_rfl) ?_ _;generalize ve.setCell _ _=v9 at*;obtain⟨y2,y2f⟩:=E2.out _ _ _ _ (by rfl) (by rfl) T9.out;have T10:=zH (F3.out _ _ _ _ (by rfl) T9.out);have k2:=T9.out.tail.obj List.mem_cons_self;have z23:=obj_cell k2 4 rfl;have k3:=T10.out.obj List.mem_cons_self;have z0:=obj_cell k3 0 rfl;have z1:=obj_cell k3 1 rfl;have z2:=obj_cell k3 2 rfl;have z3:=obj_cell k3 3 rfl;have z4:=obj_cell k3 4 rfl;have z5:=obj_cell k3 5 rfl;have z6:=obj_cell k3 6 rfl;have z7:=obj_cell k3 7 rfl;have z8:=obj_cell k3 8 rfl;clear k2 k3 hHeld S0 f1 f2 T8 GN E E2 F3;go_wp2;go_ret;exact⟨rfl,[_,_,_,_],_,by rfl,T10.out⟩
def wStepOk (W:Wd) (s:Nat):Option Wd:=
 match oneStep W.σ s with
 |some (σ1,kd,r)=>
  if (W.σ.status s).busy=true∧σ1.looks≤W.σ.looks+1∧W.σ.looks≤σ1.looks∧W.σ.looks<1000000000000000 then
   if kd=3 then
    match W.ids.getD s 0 with
    |0=>none
    |k+1=>match W.deals[k]? with
     |none=>none
     |some p=>
      if r.over=0∧p.ops.length<100000∧W.deals.length<100000∧(σ1.status s).live=true∧(σ1.status s).busy=false then some {W with σ:=σ1,deals:=W.deals.set k {p with ops:=p.ops++[(W.ops.getD s default,r)]}}
      else if r.over=3∧W.deals.length<100000∧σ1.status s={} then some {W with σ:=σ1,deals:=W.deals.set k {p with state:=3,end_:=(W.σ.status s).end_},ids:=W.ids.set s 0}
      else none
   else if (kd=1∨kd=2)∧r={}∧(σ1.status s).busy=true∧(σ1.status s).waits=decide (kd=2) then some {W with σ:=σ1}
   else none
  else none
 |none=>none
theorem wstep_any {B:WBook} {be:Nat} {w0 w:World} {ks:List Kept} {W W':Wd} (h:WK B be w0 ks W w) {s:Nat} (hs:s<8) (hr:wStepOk W s=some W'):
 Calls Tryz.prog 31 #[.pointer (some ⟨B.bw,0,none⟩),zi (s:Int)] w fun e w'=>e=.returned (.bool true)∧∃ ks' B',B'.bw=B.bw∧WK B' be w0 (ks'++ks) W' w':=by
 unfold wStepOk at hr
 split at hr
 · rename_i σ1 kd r hst
   split at hr
   · rename_i hh
     obtain⟨h1,h2,h3,h4⟩:=hh
     split at hr
     · rename_i hkd
       subst hkd
       split at hr
       · cases hr
       · rename_i k hid
         split at hr
         · cases hr
         · rename_i p hp
           split at hr
           · rename_i hh
             obtain⟨e1,e2,e3,e4,e5⟩:=hh;obtain rfl:=Option.some.inj hr;exact wstep_op h hs hst h1 h2 h3 h4 e1 hid hp e2 e3 e4 e5
           · split at hr
             · rename_i hh
               obtain⟨e1,e2,e3⟩:=hh;obtain rfl:=Option.some.inj hr;exact wstep_done h hs hst h1 h2 h3 h4 e1 hid hp e2 e3
             · cases hr
     · split at hr
       · rename_i hh
         obtain⟨e1,e2,e3,e4⟩:=hh;obtain rfl:=Option.some.inj hr;subst e2;exact (wstep_ran h hs hst e1 h1 h2 h3 h4 e3 e4).mono fun e w' ⟨q1,ks',q2⟩=>⟨q1,ks',B,rfl,q2⟩
       · cases hr
   · cases hr
 · cases hr
def wEndN:Nat→Nat→Wd→Option Wd
 |0,_,_=>none
 |f+1,i,W=>
  if W.σ.live.length=0 then some W
  else if (W.σ.status (i % 8)).live=true then
   if (W.σ.status (i % 8)).busy=true then
    match wStepOk W (i % 8) with
    |some W'=>wEndN f (i+1) W'
    |none=>none
   else
    match wIssueOk W (i % 8) ⟨6,0,0,0⟩ with
    |some W'=>wEndN f (i+1) W'
    |none=>none
  else wEndN f (i+1) W
theorem wend_any {B:WBook} {be:Nat} {w0 w:World} {ks:List Kept} {W W':Wd} (h:WK B be w0 ks W w) (F:Nat) (hF:F≤400000) (hr:wEndN F 0 W=some W'):
 Calls Tryz.prog 40 #[.pointer (some ⟨B.bw,0,none⟩)] w fun e w'=>e=.returned (.bool true)∧∃ ks' B',B'.bw=B.bw∧WK B' be w0 (ks'++ks) W' w':=by
 have H0:=zH (zA h (zA hr hF));clear h hr hF;go_enter Tryz.func40,Tryz.ntmps40;go_wp2
 go_loopw [3] (fun i wr=>∃ (k f:Nat) (ks':List Kept) (B':WBook) (Wk:Wd),i=zi (k:Int)∧k+f≤400000∧B'.bw=B.bw∧WK B' be w0 (ks'++ks) Wk wr∧wEndN f k Wk=some W') (fun i _=>400000 - (intOf i).toNat)
 case atStart=>exact⟨0,F,[],B,W,rfl,by have:=H0.out.2.2;omega,rfl,H0.out.1,H0.out.2.1⟩
 case round=>
  obtain⟨k,f,ks',B',Wk,rfl,hkf,hbw,hw,hrun⟩:=hrel
  cases f with
  |zero=>cases hrun
  |succ f=>
  unfold wEndN at hrun;have b0:(k:Int)<400000:=by omega
  have b1:((k:Int)<400000)=True:=by simp;omega
  have n1:IntKind.i64.wrap ((k:Int)+1)=(k:Int)+1:=by rw[IntKind.wrap_i64];omega
  obtain⟨ll,hll⟩:∃ ll,ll=Wk.σ.live.length:=⟨_,rfl⟩
  have N1:Hid (Calls Tryz.prog 71 #[.pointer (some ⟨be,0,none⟩)] wr fun e w'=>∃ av cap,e=.returned (.slice av ll cap)∧WK B' be w0 (ks'++ks) Wk w'):=by rw[hll];exact live_wk hw
  have x0:wr.cell? ⟨B.bw,0,none⟩=some (.pointer (some ⟨be,0,none⟩)):=by rw[←hbw];exact (hw.wcell 0 rfl).1
  have C:Hid (∀ w1,WK B' be w0 (ks'++ks) Wk w1→w1.cell? ⟨B.bw,0,none⟩=some (.pointer (some ⟨be,0,none⟩))):=fun w1 q=>by rw[←hbw];exact (q.wcell 0 rfl).1
  by_cases hl0:Wk.σ.live.length=0
  · rw[if_pos hl0] at hrun
    obtain rfl:=Option.some.inj hrun;obtain rfl:ll=0:=hll.trans hl0;have HB:=zH hbw;clear hl0 hll hw hbw hkf hrun;go_wp2_with (go_at_call 71;refine N1.out.mono ?_;rintro e w1 ⟨av,cap,rfl,q⟩;have T1:=zH q;clear q);go_ret;exact⟨rfl,ks',B',HB.out,T1.out⟩
  · rw[if_neg hl0] at hrun
    have l1:((ll:Int)==0)=false:=by simp;omega
    have l2:((ll:Int)=0)=False:=by simp;omega
    have l3:(ll=0)=False:=by simp;omega
    obtain⟨s,hs⟩:∃ s,s=k % 8:=⟨_,rfl⟩
    have hs8:s<8:=by omega
    have t1:(k:Int).tmod 8=(s:Int):=by rw[hs];exact (Int.ofNat_tmod k 8).symm
    rw[←hs] at hrun;obtain⟨lv,bz,wt,a1,a2,a3,a4,a5,a6,hst,hlv,hbz⟩:∃ lv bz wt a1 a2 a3 a4 a5 a6,statusCs (Wk.σ.status s)=#[.bool lv,.bool bz,.bool wt,zi a1,zi a2,zi a3,zu a4,zu a5,zi a6]∧lv=(Wk.σ.status s).live∧bz=(Wk.σ.status s).busy:=⟨_,_,_,_,_,_,_,_,_,rfl,rfl,rfl⟩
    have N2:Hid (∀ w1,WK B' be w0 (ks'++ks) Wk w1→Calls Tryz.prog 9 #[.pointer (some ⟨be,0,none⟩),zi (s:Int)] w1 fun e w'=>e=.returned (.agg #[.bool lv,.bool bz,.bool wt,zi a1,zi a2,zi a3,zu a4,zu a5,zi a6])∧WK B' be w0 (ks'++ks) Wk w'):=fun w1 q=>by
     have hh:=status_wk q s hs8;rw[hst] at hh;exact hh
    have O1:Hid (∀ w1 g,WK B' be w0 (.obj g (.cells #[.bool lv,.bool bz,.bool wt,zi a1,zi a2,zi a3,zu a4,zu a5,zi a6] 40)::(ks'++ks)) Wk w1→w1.cell? ⟨g,0,none⟩=some (.bool lv)∧w1.cell? ⟨g,1,none⟩=some (.bool bz)):=fun w1 g q=>by
     have hb:=q.obj (List.mem_cons_self);exact⟨obj_cell hb 0 rfl,obj_cell hb 1 rfl⟩
    rw[←hlv,←hbz] at hrun;have HB:=zH (zA hbw hkf);clear hl0 hll hst hlv hbz hs
    cases lv with
    |false=>
     rw[if_neg (by decide)] at hrun;have HR:=zH hrun;clear hrun hw hbw hkf hs8;go_wp2_with (first|(go_at_call 71;refine N1.out.mono ?_;rintro e w1 ⟨av,cap,rfl,q⟩;have x1:=C.out _ q;have T1:=zH q;clear q)|(go_at_call 9;refine (N2.out _ T1.out).mono ?_;rintro e w2 ⟨rfl,q⟩;have q2:=q.alloc (.cells #[.bool false,.bool bz,.bool wt,zi a1,zi a2,zi a3,zu a4,zu a5,zi a6] 40);obtain⟨y0,y1⟩:=O1.out _ _ q2;have T2:=zH q2;clear q q2 T1))
     go_roundw
     case rel=>exact⟨k+1,f,_::ks',B',Wk,rfl,by have:=HB.out.2;omega,HB.out.1,T2.out,HR.out⟩
     case measure=>simp[intOf];omega
    |true=>
     rw[if_pos rfl] at hrun
     cases bz with
     |false=>
      rw[if_neg (by decide)] at hrun
      split at hrun
      · rename_i W2 hi
        have N3:Hid (∀ w1 ks1,WK B' be w0 ks1 Wk w1→Calls Tryz.prog 30 #[.pointer (some ⟨B.bw,0,none⟩),zi (s:Int),.agg #[zi 6,zi 0,zi 0,zi 0]] w1 fun e w'=>e=.returned (.bool true)∧WK B' be w0 ks1 W2 w'):=fun w1 ks1 q=>by
         rw[←hbw];exact wissue_any q hs8 ⟨6,0,0,0⟩ hi
        have HR:=zH hrun;clear hrun hw hbw hkf hs8 hi;go_wp2_with (first|(go_at_call 71;refine N1.out.mono ?_;rintro e w1 ⟨av,cap,rfl,q⟩;have x1:=C.out _ q;have T1:=zH q;clear q)|(go_at_call 9;refine (N2.out _ T1.out).mono ?_;rintro e w2 ⟨rfl,q⟩;have q2:=q.alloc (.cells #[.bool true,.bool false,.bool wt,zi a1,zi a2,zi a3,zu a4,zu a5,zi a6] 40);obtain⟨y0,y1⟩:=O1.out _ _ q2;have T2:=zH q2;clear q q2 T1)|(go_at_call 30;refine (N3.out _ _ T2.out).mono ?_;rintro e w3 ⟨rfl,q⟩;have T3:=zH q;clear q T2))
        go_roundw
        case rel=>exact⟨k+1,f,_::ks',B',W2,rfl,by have:=HB.out.2;omega,HB.out.1,T3.out,HR.out⟩
        case measure=>simp[intOf];omega
      · cases hrun
     |true=>
      rw[if_pos rfl] at hrun
      split at hrun
      · rename_i W2 hi
        have N4:Hid (∀ w1 ks1,WK B' be w0 ks1 Wk w1→Calls Tryz.prog 31 #[.pointer (some ⟨B.bw,0,none⟩),zi (s:Int)] w1 fun e w'=>e=.returned (.bool true)∧∃ ks2 B2,B2.bw=B.bw∧WK B2 be w0 (ks2++ks1) W2 w'):=fun w1 ks1 q=>by
         rw[←hbw];exact wstep_any q hs8 hi
        have HR:=zH hrun;clear hrun hw hbw hkf hs8 hi;go_wp2_with (first|(go_at_call 71;refine N1.out.mono ?_;rintro e w1 ⟨av,cap,rfl,q⟩;have x1:=C.out _ q;have T1:=zH q;clear q)|(go_at_call 9;refine (N2.out _ T1.out).mono ?_;rintro e w2 ⟨rfl,q⟩;have q2:=q.alloc (.cells #[.bool true,.bool true,.bool wt,zi a1,zi a2,zi a3,zu a4,zu a5,zi a6] 40);obtain⟨y0,y1⟩:=O1.out _ _ q2;have T2:=zH q2;clear q q2 T1)|(go_at_call 31;refine (N4.out _ _ T2.out).mono ?_;rintro e w3 ⟨rfl,ks2,B2,q0,q⟩;have T3:=zH (zA q0 q);clear q0 q T2))
        go_roundw
        case rel=>exact⟨k+1,f,ks2++(_::ks'),B2,W2,rfl,by have:=HB.out.2;omega,T3.out.1,by have:=T3.out.2;rw[List.append_assoc];exact this,HR.out⟩
        case measure=>simp[intOf];omega
      · cases hrun
def awRun:Bool:=thn (wBeginOk (wNew 8 100) 0 3) fun W1=>thn (wIssueOk W1 0 ⟨2,5,0,7⟩) fun W2=>thn (wEndN 1000 0 W2) fun W3=>decide (W3.deals.length=1)&&(thn (W3.deals[0]?) fun p=>decide (p.state=3)&&(okPairs W3.σ&&decide (W3.σ.pairs=[(5,7)])))
theorem awRun_true:awRun=true:=by decide +kernel
theorem awRun_ok:∃ W1 W2 W3 p,wBeginOk (wNew 8 100) 0 3=some W1∧wIssueOk W1 0 ⟨2,5,0,7⟩=some W2∧wEndN 1000 0 W2=some W3∧W3.deals.length=1∧W3.deals[0]? =some p∧p.state=3∧okPairs W3.σ=true∧W3.σ.pairs=[(5,7)]:=by
 have h:=awRun_true;unfold awRun at h;obtain⟨W1,h1,h⟩:=thn_ok h;obtain⟨W2,h2,h⟩:=thn_ok h;obtain⟨W3,h3,h⟩:=thn_ok h;obtain⟨h4,h⟩:=and_ok h;obtain⟨p,h5,h⟩:=thn_ok h;obtain⟨h6,h⟩:=and_ok h;obtain⟨h7,h8⟩:=and_ok h;exact⟨W1,W2,W3,p,h1,h2,h3,of_decide_eq_true h4,h5,of_decide_eq_true h6,h7,of_decide_eq_true h8⟩
theorem awake23 (w:World):Calls Tryz.prog 14 #[] w fun e w'=>e=.returned (.bool true)∧Below w.heap.size w w':=by
 obtain⟨W1,W2,W3,p,h1,h2,h3,h4,h5,h6,h7,h8⟩:=awRun_ok;have HN:Hid (Calls Tryz.prog 5 #[zi 8,zu 100] w fun e w'=>∃ B be,e=.returned (.pointer (some ⟨B.bw,0,none⟩))∧WK B be w [] (wNew 8 100) w'):=wnew_any 8 100 (by omega) (by omega) (by omega) (by omega) w;have HBg:Hid (∀ B be w1,WK B be w [] (wNew 8 100) w1→Calls Tryz.prog 29 #[.pointer (some ⟨B.bw,0,none⟩),zi 0,zi 3] w1 fun e w'=>e=.returned (.bool true)∧∃ B',B'.bw=B.bw∧WK B' be w [] W1 w'):=fun B be w1 q=>wbegin_any q (s:=0) (level:=3) (by omega) h1
 have HIs:Hid (∀ B be w1 b,B.bw=b→WK B be w [] W1 w1→Calls Tryz.prog 30 #[.pointer (some ⟨b,0,none⟩),zi 0,.agg #[zi 2,zi 5,zi 0,zi 7]] w1 fun e w'=>e=.returned (.bool true)∧WK B be w [] W2 w'):=fun B be w1 b e q=>by subst e;exact wissue_any q (s:=0) (by omega) ⟨2,5,0,7⟩ h2
 have HEn:Hid (∀ B be w1 b,B.bw=b→WK B be w [] W2 w1→Calls Tryz.prog 40 #[.pointer (some ⟨b,0,none⟩)] w1 fun e w'=>e=.returned (.bool true)∧∃ B' gd cap,B'.bw=b∧WK B' be w [] W3 w'∧w'.cell? ⟨b,0,none⟩=some (.pointer (some ⟨be,0,none⟩))∧w'.cell? ⟨b,1,none⟩=some (.slice (some ⟨gd,0,none⟩) 1 cap)∧w'.cell? ⟨gd,2,none⟩=some (zi 3)):=fun B be w1 b e q=>by
  subst e;refine (wend_any q 1000 (by omega) h3).mono ?_;rintro e w' ⟨rfl,ks',B',hb,q⟩;have y1:=(q.wcell 1 rfl).1;have hk:∃ pv,B'.ds[0]? =some (p,pv):=by
   have hl:=q.dl;rw[←hl,List.getElem?_map] at h5
   cases hq:B'.ds[0]? with
   |none=>rw[hq] at h5;cases h5
   |some x=>
    rw[hq] at h5;obtain rfl:=Option.some.inj h5;exact⟨x.2,rfl⟩
  obtain⟨pv,hk⟩:=hk;obtain⟨gd,cap,hv,_,_,_,hf⟩:=q.deal hk;rw[hv,q.dlen,h4,hb] at y1;have y2:=(hf 2 (i64 p.state) (by omega) rfl).1;rw[h6] at y2;have y0:=(q.wcell 0 rfl).1;rw[hb] at y0;exact⟨rfl,B',gd,cap,hb,q.drop,y0,y1,y2⟩
 have HPr:Hid (∀ B be w1,WK B be w [] W3 w1→Calls Tryz.prog 13 #[.pointer (some ⟨be,0,none⟩)] w1 fun e w'=>∃ av cap,e=.returned (.slice av 1 cap)∧Ow.Row w' 0 2 (.slice av 1 cap) (pairCs [(5,7)])∧WK B be w [] W3 w'):=fun B be w1 q=>by
  have hh:=pairs_wk q h7;rw[h8] at hh;exact hh
 have HSP:Hid (∀ av cap w1,Ow.Row w1 0 2 (.slice av 1 cap) (pairCs [(5,7)])→Calls Tryz.prog 12 #[.slice av 1 cap,.slice (some ⟨w1.heap.size,0,none⟩) 1 1] (w1.alloc (.cells #[zi 5,zi 7] 120)) fun e w'=>e=.returned (.bool true)∧Below (w1.alloc (.cells #[zi 5,zi 7] 120)).heap.size (w1.alloc (.cells #[zi 5,zi 7] 120)) w'):=fun av cap w1 q=>by
  refine same_pairs _ _ [(5,7)] 0 0 _ (Row.alloc' q _) ?_;exact row_of_obj (xs:=pairCs [(5,7)]) 1 2 (heap_alloc_new w1 _) rfl (by omega)
 clear h1 h2 h3 h4 h5 h6 h7 h8;go_enter Tryz.func14,Tryz.ntmps14;go_wp2_with (first|(go_at_call 5;refine HN.out.mono ?_;rintro e w1 ⟨B,be,rfl,q⟩;have T1:=zH q;clear q)|(go_at_call 29;refine (HBg.out _ _ _ T1.out).mono ?_;rintro e w2 ⟨rfl,B1,hb,q⟩;have T2:=zH (zA hb q);clear q hb T1)|(go_at_call 30;refine (HIs.out _ _ _ _ T2.out.1 T2.out.2).mono ?_;rintro e w3 ⟨rfl,q⟩;have T3:=zH (zA T2.out.1 q);clear q T2)|(go_at_call 40;refine (HEn.out _ _ _ _ T3.out.1 T3.out.2).mono ?_;rintro e w4 ⟨rfl,B2,gd,cap,_,q,x0,x1,x2⟩;have T4:=zH q;clear q T3)|(go_at_call 13;refine (HPr.out _ _ _ T4.out).mono ?_;rintro e w5 ⟨av,c5,rfl,q1,q⟩;have T5:=zH q;have HR:=zH q1;clear q q1 T4)|(go_at_call 12;refine (HSP.out _ _ _ HR.out).mono ?_;rintro e w6 ⟨rfl,q⟩;have T6:=zH ((T5.out.alloc _).below q);clear q));go_ret;exact⟨rfl,T6.out.toBelow⟩
theorem issue_many {A:Book} {σ:St} {w:World} (hL:Live A σ w) (s:Nat) (hs:s<8) (t:Txn) (ht:σ.txns.getD s none=some t) (o:En.Op) (ho:opOk o=true) (he:opEnds o=false) (hn:σ.calls.getD s none=none) (hop:12≤t.ops):
 Calls Tryz.prog 22 #[.pointer (some ⟨A.be,0,none⟩),zi (s:Int),.agg #[zi (o.kind:Int),zi (o.key:Int),zi (o.hi:Int),zi (o.value:Int)]] w fun e w'=>e=.returned (zi 65)∧Below w.heap.size w w':=by
 obtain⟨r0,g0,f0⟩:=allocs1 hL.rep #[zi (o.kind:Int),zi (o.key:Int),zi (o.hi:Int),zi (o.value:Int)] 28;have hsok:=zH (sessionOk s hs);have hok:=zH (opOk_true o ho);have hen:=zH (ends_op o);rw[he] at hen;have b1:(s:Int)<8:=by omega
 have b0:(0:Int)≤(s:Int):=by omega
 have HW:Hid (∀ w',Below (w.alloc (.cells #[zi (o.kind:Int),zi (o.key:Int),zi (o.hi:Int),zi (o.value:Int)] 28)).heap.size (w.alloc (.cells #[zi (o.kind:Int),zi (o.key:Int),zi (o.hi:Int),zi (o.value:Int)] 28)) w'→Below w.heap.size w w'∧(w'.cell? ⟨w.heap.size,0,none⟩=some (zi (o.kind:Int))∧w'.cell? ⟨w.heap.size,1,none⟩=some (zi (o.key:Int))∧w'.cell? ⟨w.heap.size,2,none⟩=some (zi (o.hi:Int))∧w'.cell? ⟨w.heap.size,3,none⟩=some (zi (o.value:Int)))∧w'.cell? ⟨A.be,5+s,none⟩=some (.pointer (some ⟨A.bt s,0,none⟩))∧w'.cell? ⟨A.be,13+s,none⟩=some (.pointer none)∧w'.cell? ⟨A.bt s,5,none⟩=some (zi (t.ops:Int))):=by
  intro w' hb;have r:=r0.below hb;have f:=f0.grow (Grow.below (L:=A.L) hb);have h:=r.eng (5+s) (engCs_txn A σ hs);have h2:=r.eng (13+s) (engCs_call A σ hs);have e:A.tp σ s=.pointer (some ⟨A.bt s,0,none⟩):=by unfold Book.tp;rw[ht]
  rw[e] at h;rw[hL.idle s hs hn] at h2;exact⟨((Below.refl _ _).alloc (Nat.le_refl _) _).trans (hb.mono (by simp)),⟨f.cell 0 rfl,f.cell 1 rfl,f.cell 2 rfl,f.cell 3 rfl⟩,h,h2,r.txn ht 5 rfl⟩
 obtain⟨hb0,⟨o0,o1,o2,o3⟩,v1,v2,v3⟩:=HW.out _ (Below.refl _ _);have HB0:=zH hb0;have d1:decide ((12:Int)≤(t.ops:Int))=true:=by simp;omega
 have d2:((12:Int)≤(t.ops:Int))=True:=by simp;omega
 have d3:(12≤t.ops)=True:=by simp;omega
 clear hL r0 g0 f0 hs ho he hn hop ht hb0;go_enter Tryz.func22,Tryz.ntmps22;go_wp2_with (first|(go_at_call 33;refine (hsok.out _).mono ?_;rintro e w' ⟨rfl,rfl⟩)|(go_at_call 54;refine (hok.out _).mono ?_;rintro e w1 ⟨rfl,hb⟩;obtain⟨_,⟨y0,y1,y2,y3⟩,x1,x2,x3⟩:=HW.out w1 hb;have H1:=zH hb;clear hb)|(go_at_call 55;refine (hen.out _).mono ?_;rintro e w2 ⟨rfl,hb2⟩;have HB2:=zH (HW.out w2 (H1.out.trans (hb2.mono H1.out.size))).1;clear hb2));go_ret;exact⟨rfl,HB2.out⟩
section
variable {B:WBook} {be:Nat} {w0 w w':World} {ks:List Kept} {W:Wd}
theorem WK.addGone {w1:World} {v':Value} (h:WK B be w0 ks W w) (n:Nat) (hb:Below w.heap.size w w1)
 (ho:w'.ownsRow 0 3 1 v' (W.gone.length+1) (W.gone.map i64++[i64 n])) (hg:w1.grownBy w' B.vg.ownBlock) (h3:v'.ownBlock=B.vg.ownBlock∨∀ g,v'.ownBlock=some g→w1.heap.size≤g):
 w'.cell? ⟨B.bw,42,none⟩=some B.vg∧w'.frozen? ⟨B.bw,42,none⟩=false∧(∀ a v,a.block<w.heap.size→B.vg.ownBlock≠some a.block→w.cell? a=some v→w'.cell? a=some v)∧
 ∃ B',B'.bw=B.bw∧WK B' be w0 ks {W with gone:=W.gone++[n]} (w'.setCell ⟨B.bw,42,none⟩ v'):=by
 have h1:=h.below hb;have hge:∀ b r,B.M b=some r→w0.heap.size≤b:=fun b r=>h1.ge
 obtain⟨A,rfl,l,r,g,t⟩:=h1.ex;have htm:TmpRow A.L B.vg:=fun b hb=>r.tie b _ ((r.mem.all .free).2 b hb)
 obtain⟨L',hrow,htm'⟩:=append_tmp l htm ho hg h3;have hgr:=r.mem.grown .free (v:=B.vg) (v':=v') (n':=W.gone.length+1) rfl hg ho h3;obtain⟨hm,hgm⟩:=hgr;have hc1:=hm.cell (r:=.eng) (b:=B.bw) (cs:=worldCs A.be B W) (T:=37) (updE_other _ _ (by simp)) 42 (v:=B.vg) (worldCs_gone r.i8 r.o8);have hc2:=hm.frozen (r:=.eng) (b:=B.bw) (cs:=worldCs A.be B W) (T:=37) (updE_other _ _ (by simp)) 42;have hp:=hm.put .eng (b:=B.bw) (cs:=worldCs A.be B W) (T:=37) (updE_other _ _ (by simp)) 42 v';rw[worldCs_setGone r.i8 r.o8] at hp;have hbw:B.M B.bw=some .eng:=(r.mem.all .eng).1;have hlt:B.bw<w1.heap.size:=r.lt hbw;have hlb:L' B.bw=some .tmp:=(hrow.lab _ hlt).trans (r.tie _ _ hbw);have hbut:=But.setCell w' ⟨B.bw,42,none⟩ v';have hsoft:=hbut.soft hlb;refine⟨hc1,hc2,fun a v ha hna hc=>?_,{B with M:=labV B.M v' .free,vg:=v'},rfl,{A with L:=L'},rfl,?_,⟨fun b q hbq=>?_,⟨fun q=>?_,hp.fresh⟩,fun k p hk=>?_,r.dl,r.i8,r.o8⟩,?_,KW.soft (hrow.soft.trans hsoft) (far_app (r:=.free) hrow hbw (fun g hg=>(r.mem.all .free).2 g hg) hg h3 hbut) t⟩
 · rw[World.cell?_of_block (w:=w) ((hg.block a.block (Nat.lt_of_lt_of_le ha hb.size) (fun e=>hna e.symm)).trans (hb.block a.block ha))];exact hc
 · exact (l.rown hrow).but hlb hbut
 · replace hbq:labV B.M v' .free b=some q:=hbq
   unfold labV at hbq
   split at hbq
   · rename_i hv
     exact htm' b hv
   · exact (hrow.lab b (r.lt hbq)).trans (r.tie b q hbq)
 · have hq:=hp.all q
   cases q with
   |eng=>exact hq
   |free=>
    rw[updE_other _ _ (by simp),updE_same] at hq;show Entry.Holds _ _ _ (.own v' _ 1 (W.gone++[n]).length ((W.gone++[n]).map i64));rw[List.map_append,List.length_append];exact hq
   |tale=>rw[updE_other _ _ (by simp),updE_other _ _ (by simp)] at hq;exact hq
   |reads k=>rw[updE_other _ _ (by simp),updE_other _ _ (by simp)] at hq;exact hq
   |_=>trivial
 · exact ((r.cls k p hk).soft hrow.soft).soft hsoft
 · exact (g.rown hrow (fun b hb=>hge b _ ((r.mem.all .free).2 b hb))).but (hge _ _ hbw) hbut
end
theorem infoGo:(Tryz.prog.info? 3).map (fun i=>(i.zero,i.size,i.bytes))=some (some (zi 0),1,8):=by kernel_rfl
set_option maxHeartbeats 16000000 in
theorem wstep_gone {B:WBook} {be:Nat} {w0 w:World} {ks:List Kept} {W:Wd} (h:WK B be w0 ks W w) {s:Nat} (hs:s<8) {σ1:St} {r:Res} (hbe:oneStep W.σ s=some (σ1,3,r)) (hbz:(W.σ.status s).busy=true) (hl1:σ1.looks≤W.σ.looks+1) (hl2:W.σ.looks≤σ1.looks) (hl3:W.σ.looks<1000000000000000) (hov:r.over=4) (hgl:W.gone.length<100000) {k:Nat} (hid:W.ids.getD s 0=k+1) {p:Dl} (hp:W.deals[k]? =some p) (hdl:W.deals.length<100000) (hnz:σ1.status s={}):
 Calls Tryz.prog 31 #[.pointer (some ⟨B.bw,0,none⟩),zi (s:Int)] w fun e w'=>e=.returned (.bool true)∧∃ ks' B',B'.bw=B.bw∧WK B' be w0 (ks'++ks) {W with σ:=σ1,deals:=W.deals.set k {p with state:=4,end_:=(W.σ.status s).end_},ids:=W.ids.set s 0,gone:=W.gone++[r.reason]} w':=by
 obtain⟨ii,hii,hz0,hz1,hz2⟩:=info_parts infoGo;obtain⟨ao,oc,hvg,_,_,_⟩:=Ow.own_form h.gone;obtain⟨on,hon⟩:∃ on,on=W.gone.length:=⟨_,rfl⟩
 rw[←hon] at hvg hgl;have HGO:Hid (∀ B1 ks W1 w1,B1.bw=B.bw→B1.vg=B.vg→W1.gone=W.gone→WK B1 be w0 ks W1 w1→w1.cell? ⟨B.bw,42,none⟩=some (.slice ao on oc)∧w1.ownsRow 0 3 1 (.slice ao on oc) on (W.gone.map i64)∧on<100000∧B1.vg=.slice ao on oc):=fun B1 ks W1 w1 e1 e2 e3 q=>by
  have y:=(q.wcell 42 (worldCs_gone q.i8 q.o8)).1;have y2:=q.gone;rw[e1,e2,hvg] at y;rw[e2,e3,hvg,←hon] at y2;exact⟨y,y2,hgl,by rw[e2,hvg]⟩
 clear hvg hgl hon;obtain⟨lv,wt,a1,a2,a3,a4,en,a6,hst,hen⟩:∃ lv wt a1 a2 a3 a4,∃ en:Nat,∃ a6,statusCs (W.σ.status s)=#[.bool lv,.bool true,.bool wt,zi a1,zi a2,zi a3,zu a4,zu (en:Int),zi a6]∧en=(W.σ.status s).end_:=by
  refine⟨(W.σ.status s).live,(W.σ.status s).waits,((W.σ.status s).id:Int),((W.σ.status s).level:Int),((W.σ.status s).state:Int),((W.σ.status s).begin_:Int),(W.σ.status s).end_,((W.σ.status s).ops:Int),?_,rfl⟩;unfold statusCs;rw[hbz]
 obtain⟨lk,hlk⟩:∃ lk,lk=W.σ.looks:=⟨_,rfl⟩
 obtain⟨lk1,hlk1⟩:∃ lk1,lk1=σ1.looks:=⟨_,rfl⟩
 rw[←hlk] at hl1 hl2 hl3;rw[←hlk1] at hl1 hl2;have hst1:statusCs (σ1.status s)=#[.bool false,.bool false,.bool false,zi 0,zi 0,zi 0,zu 0,zu 0,zi 0]:=by rw[hnz];rfl
 rw[←hen];clear hnz hbz hen;have hl:=h.dl;have hln:=h.dlen;obtain⟨⟨pd,pv⟩,hk,hpd⟩:∃ q,B.ds[k]? =some q∧q.1=p:=by
  rw[←hl,List.getElem?_map] at hp
  cases hq:B.ds[k]? with
  |none=>rw[hq] at hp;cases hp
  |some q=>rw[hq] at hp;exact⟨q,rfl,Option.some.inj hp⟩
 obtain rfl:pd=p:=hpd;obtain⟨gd,cap,hvd,_,_,hgm,_⟩:=h.deal hk;have hkl:k<W.deals.length:=(List.getElem?_eq_some_iff.1 hp).1;obtain⟨n,hn⟩:∃ n,n=W.deals.length:=⟨_,rfl⟩
 have hvd0:=hvd;rw[hln,←hn] at hvd;have E:Hid (∀ B1 ks W1 w1,B1.bw=B.bw→B1.vd=B.vd→WK B1 be w0 ks W1 w1→w1.cell? ⟨B.bw,1,none⟩=some (.slice (some ⟨gd,0,none⟩) n cap)):=fun B1 ks W1 w1 e1 e2 q=>by
  have y1:=(q.wcell 1 rfl).1;rw[e1,e2,hvd] at y1;exact y1
 have E2:Hid (∀ B1 ks W1 w1,B1.bw=B.bw→W1.ids=W.ids→WK B1 be w0 ks W1 w1→w1.cell? ⟨B.bw,2+s,none⟩=some (zi ((k:Int)+1))∧w1.frozen? ⟨B.bw,2+s,none⟩=false):=fun B1 ks W1 w1 e1 e2 q=>by
  have y2:=q.wcell (2+s) (worldCs_id (W:=W1) q.i8 hs);rw[e1,e2,hid] at y2;exact y2
 have F1:Hid (∀ ks w1,WK B be w0 ks {W with σ:=σ1} w1→w1.cell? ⟨gd,k*6+2,none⟩=some (i64 pd.state)∧w1.frozen? ⟨gd,k*6+2,none⟩=false∧WK {B with ds:=B.ds.set k ({pd with state:=4},pv)} be w0 ks {W with σ:=σ1,deals:=W.deals.set k {pd with state:=4}} (w1.setCell ⟨gd,k*6+2,none⟩ (zi 4))):=fun ks w1 q=>by
  obtain⟨gd',cap',hv',_,_,_,hf⟩:=q.deal hk;rw[hvd0] at hv';simp only[Value.slice.injEq,Option.some.injEq,Addr.mk.injEq,and_true,true_and] at hv';obtain⟨rfl,rfl⟩:=hv';obtain⟨f1,f2⟩:=hf 2 (i64 pd.state) (by omega) rfl;exact⟨f1,f2,q.setDeal hk (j:=2) (by omega) (zi 4) {pd with state:=4} rfl rfl hvd0⟩
 have F2:Hid (∀ ks w1,WK {B with ds:=B.ds.set k ({pd with state:=4},pv)} be w0 ks {W with σ:=σ1,deals:=W.deals.set k {pd with state:=4}} w1→w1.cell? ⟨gd,k*6+4,none⟩=some (u64 pd.end_)∧w1.frozen? ⟨gd,k*6+4,none⟩=false∧WK {B with ds:=B.ds.set k ({pd with state:=4,end_:=en},pv)} be w0 ks {W with σ:=σ1,deals:=W.deals.set k {pd with state:=4,end_:=en}} (w1.setCell ⟨gd,k*6+4,none⟩ (zu (en:Int)))):=fun ks w1 q=>by
  have hk2:({B with ds:=B.ds.set k ({pd with state:=4},pv)}:WBook).ds[k]? =some ({pd with state:=4},pv):=by
   show (B.ds.set k _)[k]? =_;rw[List.getElem?_set_self (by rw[hln];exact hkl)]
  have hvd2:({B with ds:=B.ds.set k ({pd with state:=4},pv)}:WBook).vd=.slice (some ⟨gd,0,none⟩) (B.ds.set k ({pd with state:=4},pv)).length cap:=by rw[List.length_set];exact hvd0
  obtain⟨gd',cap',hv',_,_,_,hf⟩:=q.deal hk2;rw[hvd2] at hv';simp only[Value.slice.injEq,Option.some.injEq,Addr.mk.injEq,and_true,true_and] at hv';obtain⟨rfl,rfl⟩:=hv';obtain⟨f1,f2⟩:=hf 4 (u64 pd.end_) (by omega) rfl;have h9:=q.setDeal hk2 (j:=4) (by omega) (zu (en:Int)) {pd with state:=4,end_:=en} rfl rfl hvd2;simp only[List.set_set] at h9;exact⟨f1,f2,h9⟩
 have F3:Hid (∀ B1 ks W1 w1,B1.bw=B.bw→WK B1 be w0 ks W1 w1→WK B1 be w0 ks {W1 with ids:=W1.ids.set s 0} (w1.setCell ⟨B.bw,2+s,none⟩ (zi 0))):=fun B1 ks W1 w1 e1 q=>by
  have:=q.putId hs 0;rw[e1] at this;exact this
 have HNE:Hid (∀ ks w1 g g' ob ob',WK B be w0 ks {W with σ:=σ1} w1→Kept.obj g ob∈ks→Kept.obj g' ob'∈ks→gd≠B.bw∧gd≠g∧gd≠g'):=fun ks w1 g g' ob ob' q hm hm'=>by
  have hbw:B.M B.bw=some .eng:=by obtain⟨A,rfl,l,r',g0,t⟩:=q.ex;exact (r'.mem.all .eng).1
  have hno:=q.keptNo hm;have hno':=q.keptNo hm';refine⟨fun e=>?_,fun e=>?_,fun e=>?_⟩
  · rw[e,hbw] at hgm;cases hgm
  · rw[e,hno] at hgm;cases hgm
  · rw[e,hno'] at hgm;cases hgm
 have m2:((k:Int)<0)=False:=by simp
 have m3:decide ((k:Int)<0)=false:=by simp
 have m4:((n:Int)≤(k:Int))=False:=by simp;omega
 have m5:decide ((n:Int)≤(k:Int))=false:=by simp;omega
 have m6:(n≤k)=False:=by simp;omega
 have m7:(k:Int)<(n:Int):=by omega
 have m8:(0:Int)≤(k:Int):=by omega
 have m9:k<n:=by omega
 have kb:k<100000:=by omega
 have m1:IntKind.i64.wrap (k:Int)=(k:Int):=by rw[IntKind.wrap_i64];omega
 clear hid hp hdl hl hln hk hvd hvd0 hgm hkl hn;have N1:Hid (∀ ks w1,WK B be w0 ks W w1→Calls Tryz.prog 9 #[.pointer (some ⟨be,0,none⟩),zi (s:Int)] w1 fun e w'=>e=.returned (.agg #[.bool lv,.bool true,.bool wt,zi a1,zi a2,zi a3,zu a4,zu (en:Int),zi a6])∧WK B be w0 ks W w'):=fun ks w1 q=>by
  have hh:=status_wk q s hs;rw[hst] at hh;exact hh
 have N2:Hid (∀ ks w1,WK B be w0 ks W w1→Calls Tryz.prog 7 #[.pointer (some ⟨be,0,none⟩)] w1 fun e w'=>e=.returned (zi (lk:Int))∧w1=w'):=fun ks w1 q=>by
  have hh:=looks_wk q;rw[←hlk] at hh;exact hh
 have N3:Hid (∀ ks w1,WK B be w0 ks W w1→Calls Tryz.prog 23 #[.pointer (some ⟨be,0,none⟩),zi (s:Int)] w1 fun e w'=>∃ va vn vc,e=.returned (.tuple #[.agg #[zi 3,zi (r.e:Int),zi (r.value:Int),.slice va vn vc,zi 4,zi (r.reason:Int)],zi 0])∧WK B be w0 (.row 2 (.slice va vn vc) (pairCs r.pairs)::ks) {W with σ:=σ1} w'):=fun ks w1 q=>by
  refine (step_wk q hs hbe).mono ?_;rintro e w' ⟨va,vn,vc,rfl,hvn,q⟩;rw[hov];exact⟨va,vn,vc,rfl,q⟩
 have N4:Hid (∀ ks w1,WK B be w0 ks {W with σ:=σ1} w1→Calls Tryz.prog 7 #[.pointer (some ⟨be,0,none⟩)] w1 fun e w'=>e=.returned (zi (lk1:Int))∧w1=w'):=fun ks w1 q=>by
  have hh:=looks_wk q;rw[←hlk1] at hh;exact hh
 have N5:Hid (∀ ks w1,WK B be w0 ks {W with σ:=σ1} w1→Calls Tryz.prog 9 #[.pointer (some ⟨be,0,none⟩),zi (s:Int)] w1 fun e w'=>e=.returned (.agg #[.bool false,.bool false,.bool false,zi 0,zi 0,zi 0,zu 0,zu 0,zi 0])∧WK B be w0 ks {W with σ:=σ1} w'):=fun ks w1 q=>by
  have hh:=status_wk q s hs;rw[hst1] at hh;exact hh
 have C:Hid (∀ σ' ks w1,WK B be w0 ks {W with σ:=σ'} w1→w1.cell? ⟨B.bw,0,none⟩=some (.pointer (some ⟨be,0,none⟩))):=fun σ' ks w1 q=>(q.wcell 0 rfl).1
 have O1:Hid (∀ ks W1 w1 g,WK B be w0 (.obj g (.cells #[.bool lv,.bool true,.bool wt,zi a1,zi a2,zi a3,zu a4,zu (en:Int),zi a6] 40)::ks) W1 w1→w1.cell? ⟨g,1,none⟩=some (.bool true)∧w1.cell? ⟨g,7,none⟩=some (zu (en:Int))):=fun ks W1 w1 g q=>by
  have hb:=q.obj (List.mem_cons_self);exact⟨obj_cell hb 1 rfl,obj_cell hb 7 rfl⟩
 have b0:((s:Int)<0)=False:=by simp
 have b1:((7:Int)<(s:Int))=False:=by simp;omega
 have b2:(0:Int)≤(s:Int):=by omega
 have b3:(s:Int)<8:=by omega
 have b4:decide ((s:Int)<0)=false:=by simp
 have b5:decide ((7:Int)<(s:Int))=false:=by simp;omega
 have b6:(7<s)=False:=by simp;omega
 have n1:IntKind.i64.wrap ((lk:Int)+1)=(lk:Int)+1:=by rw[IntKind.wrap_i64];omega
 have c1:((lk:Int)+1<(lk1:Int))=False:=by simp;omega
 have c2:decide ((lk:Int)+1<(lk1:Int))=false:=by simp;omega
 have c3:((lk1:Int)<(lk:Int))=False:=by simp;omega
 have c4:decide ((lk1:Int)<(lk:Int))=false:=by simp;omega
 have c5:(lk1<lk)=False:=by simp;omega
 have m0:wrap64 (k:Int)=(k:Int):=by unfold wrap64;omega
 clear kb;have T0:=zH h;have x0:=C.out W.σ _ _ T0.out;clear hst hst1 hlk hlk1 hl1 hl2 hl3 hbe h hs hov;go_enter Tryz.func31,Tryz.ntmps31;go_upto_region 11 with (first|(go_at_call 9;refine (N1.out _ _ T0.out).mono ?_;clear T0;rintro e w1 ⟨rfl,q⟩;have x1:=C.out W.σ _ _ (q.alloc (.cells #[.bool lv,.bool true,.bool wt,zi a1,zi a2,zi a3,zu a4,zu (en:Int),zi a6] 40));have T1:=zH (q.alloc (.cells #[.bool lv,.bool true,.bool wt,zi a1,zi a2,zi a3,zu a4,zu (en:Int),zi a6] 40));clear q)|(go_at_call 7;refine (N2.out _ _ T1.out).mono ?_;rintro e w' ⟨rfl,rfl⟩;have T2:=T1;clear T1)|(go_at_call 23;refine (N3.out _ _ T2.out).mono ?_;clear T2;rintro e w3 ⟨va,vn,vc,rfl,q⟩;have q2:=q.alloc (.cells #[zi 3,zi (r.e:Int),zi (r.value:Int),.slice va vn vc,zi 4,zi (r.reason:Int)] 65);have x3:=C.out σ1 _ _ q2;obtain⟨y1,y2⟩:=O1.out _ _ _ _ q2.tail.tail;have T3:=zH q2;clear q q2)|(go_at_call 7;refine (N4.out _ _ T3.out).mono ?_;rintro e w' ⟨rfl,rfl⟩)|(go_at_call 9;refine (N5.out _ _ T3.out).mono ?_;clear T3;rintro e w6 ⟨rfl,q⟩;have q2:=q.alloc (.cells #[.bool false,.bool false,.bool false,zi 0,zi 0,zi 0,zu 0,zu 0,zi 0] 40);have T6:=zH q2;clear q q2))
 generalize hv6:w6.alloc _=v6 at*;generalize w1.heap.size=g1 at*;generalize w3.heap.size=g2 at*;generalize w6.heap.size=g3 at*;have x6:=C.out σ1 _ _ T6.out;have k3:=T6.out.obj List.mem_cons_self;have k2:=T6.out.tail.obj List.mem_cons_self;have k1:=T6.out.tail.tail.tail.obj List.mem_cons_self;have z30:=obj_cell k3 0 rfl;have z31:=obj_cell k3 1 rfl;have z32:=obj_cell k3 2 rfl;have z20:=obj_cell k2 0 rfl;have z21:=obj_cell k2 1 rfl;have z22:=obj_cell k2 2 rfl;have z23:=obj_cell k2 3 rfl;have z24:=obj_cell k2 4 rfl;have z25:=obj_cell k2 5 rfl;have z17:=obj_cell k1 7 rfl;clear k1 k2 k3 hv6 N1 N2 N3 N4 N5 C O1 b0 b1 b4 b5 b6 c1 c2 c3 c4 c5 n1;have y1:=E.out _ _ _ _ (by rfl) (by rfl) T6.out;obtain⟨y2,y2f⟩:=E2.out _ _ _ _ (by rfl) (by rfl) T6.out;go_upto_region 22 with fail
 have T7:=zH T6.out.drew;have GN:=zH (HNE.out _ _ g2 g1 _ _ T7.out (List.mem_cons_of_mem _ List.mem_cons_self) (List.mem_cons_of_mem _ (List.mem_cons_of_mem _ (List.mem_cons_of_mem _ List.mem_cons_self))));obtain⟨f1,f2,f3⟩:=F1.out _ _ T7.out;have T8:=zH f3;have S0:v6.drew.cell? ⟨B.bw,1,none⟩=some (.slice (some ⟨gd,0,none⟩) n cap)∧v6.drew.cell? ⟨g2,4,none⟩=some (zi 4):=⟨y1,z24⟩
 clear f3 HNE F1 T6 z20 z21 z22 z24 z25 z30 z31 z32 x6 m1 m0 y2 y2f y1 z23 z17;refine wp_region_held_drew (S:=fun w'=>w'.cell? ⟨B.bw,1,none⟩=some (.slice (some ⟨gd,0,none⟩) n cap)∧w'.cell? ⟨g2,4,none⟩=some (zi 4)) (by kernel_rfl) ?_ (fun hHeld=>?_)
 · (try dsimp only);exact S0
 generalize v6.drew=vd at*;refine zqt (i:=0) rfl hHeld ?_
 (try simp only[zqa,zqb,zqc,Act.put,zqd,zqe,zqf])
 refine zqt (i:=1) rfl hHeld ?_
 (try simp only[zqa,zqb,zqc,Act.put,zqd,zqe,zqf])
 refine zqt (i:=2) rfl hHeld ?_
 (try simp only[zqa,zqb,zqc,Act.put,zqd,zqe,zqf])
 refine zqt (i:=3) rfl hHeld ?_
 (try simp only[zqa,zqb,zqc,Act.put,zqd,zqe,zqf])
 refine zqt (i:=4) rfl hHeld ?_
 (try simp only[zqa,zqb,zqc,Act.put,zqd,zqe,zqf])
 refine zqt (i:=5) rfl hHeld ?_
 (try simp only[zqa,zqb,zqc,Act.put,zqd,zqe,zqf])
 refine zqt (i:=6) rfl hHeld ?_
 (try simp only[zqa,zqb,zqc,Act.put,zqd,zqe,zqf])
 refine zqt (i:=7) rfl hHeld ?_
 (try simp only[zqa,zqb,zqc,Act.put,zqd,zqe,zqf])
 refine zqt (i:=8) rfl hHeld ?_
 (try simp only[zqa,zqb,zqc,Act.put,zqd,zqe,zqf])
 refine zqt (i:=9) rfl hHeld ?_
 (try simp only[zqa,zqb,zqc,Act.put,zqd,zqe,zqf])
 refine wpAnyH_ready (rs:=[10]) (by kernel_rfl) (by simp) ?_;refine AllReadyH.cons (o:=_) rfl (fun K hK=>?_) AllReadyH.nil;go_simp;refine hK.out _ _ ?_ (fun hHeld=>?_)
 · (try dsimp only);exact⟨cell_set_keep (by exact GN.out.1) hHeld.1,cell_set_keep (by exact GN.out.2.1) hHeld.2⟩
 clear hK K
 (try simp only[zqa,zqb,zqc,Act.put,zqd,zqe,zqf])
 refine wpAnyH_done (by kernel_rfl) ?_ _;generalize vd.setCell _ _=v8 at*;have y1:=E.out _ _ _ _ (by rfl) (by rfl) T8.out;have z17:=obj_cell (T8.out.tail.tail.tail.obj List.mem_cons_self) 7 rfl;clear hHeld S0 f1 f2 T7;go_upto_region 23 with fail
 obtain⟨f1,f2,f3⟩:=F2.out _ _ T8.out.drew;have T9:=zH f3;have S0:v8.drew.cell? ⟨B.bw,1,none⟩=some (.slice (some ⟨gd,0,none⟩) n cap)∧v8.drew.cell? ⟨g1,7,none⟩=some (zu (en:Int)):=⟨y1,z17⟩
 clear f3 F2 y1 z17;refine wp_region_held_drew (S:=fun w'=>w'.cell? ⟨B.bw,1,none⟩=some (.slice (some ⟨gd,0,none⟩) n cap)∧w'.cell? ⟨g1,7,none⟩=some (zu (en:Int))) (by kernel_rfl) ?_ (fun hHeld=>?_)
 · (try dsimp only);exact S0
 generalize v8.drew=ve at*;refine zqt (i:=0) rfl hHeld ?_
 (try simp only[zqa,zqb,zqc,Act.put,zqd,zqe,zqf])
 refine zqt (i:=1) rfl hHeld ?_
 (try simp only[zqa,zqb,zqc,Act.put,zqd,zqe,zqf])
 refine zqt (i:=2) rfl hHeld ?_
 (try simp only[zqa,zqb,zqc,Act.put,zqd,zqe,zqf])
 refine zqt (i:=3) rfl hHeld ?_
 (try simp only[zqa,zqb,zqc,Act.put,zqd,zqe,zqf])
 refine zqt (i:=4) rfl hHeld ?_
 (try simp only[zqa,zqb,zqc,Act.put,zqd,zqe,zqf])
 refine zqt (i:=5) rfl hHeld ?_
 (try simp only[zqa,zqb,zqc,Act.put,zqd,zqe,zqf])
 refine zqt (i:=6) rfl hHeld ?_
 (try simp only[zqa,zqb,zqc,Act.put,zqd,zqe,zqf])
 refine zqt (i:=7) rfl hHeld ?_
 (try simp only[zqa,zqb,zqc,Act.put,zqd,zqe,zqf])
 refine zqt (i:=8) rfl hHeld ?_
 (try simp only[zqa,zqb,zqc,Act.put,zqd,zqe,zqf])
 refine wpAnyH_ready (rs:=[9]) (by kernel_rfl) (by simp) ?_;refine AllReadyH.cons (o:=_) rfl (fun K hK=>?_) AllReadyH.nil;go_simp;refine hK.out _ _ ?_ (fun hHeld=>?_)
 · (try dsimp only);exact⟨cell_set_keep (by exact GN.out.1) hHeld.1,cell_set_keep (by exact GN.out.2.2) hHeld.2⟩
 clear hK K
 (try simp only[zqa,zqb,zqc,Act.put,zqd,zqe,zqf])
 refine wpAnyH_done (by kernel_rfl) ?_ _;generalize ve.setCell _ _=v9 at*;have k2:=T9.out.tail.obj List.mem_cons_self;have z24:=obj_cell k2 4 rfl;clear k2 hHeld S0 f1 f2 T8;go_upto_region 25 with fail
 have T9d:=zH T9.out.drew;have S0:v9.drew.cell? ⟨g2,5,none⟩=some (zi (r.reason:Int)):=obj_cell (T9d.out.tail.obj List.mem_cons_self) 5 rfl;obtain⟨y42,hrow42,hrow43,hvg9⟩:=HGO.out _ _ _ _ (by rfl) (by rfl) (by rfl) T9d.out;have z42:=(T9d.out.wcell 42 (worldCs_gone T9d.out.i8 T9d.out.o8)).2;have hno:=T9d.out.keptNo (List.mem_cons_of_mem _ List.mem_cons_self);have hgx:(Value.slice ao on oc).ownBlock≠some g2:=fun e=>by
  obtain⟨A,rfl,l,r',g0,t⟩:=T9d.out.ex;have:=(r'.mem.all .free).2 g2 (by rw[hvg9];exact e);rw[hno] at this;cases this
 have hgl2:g2<v9.drew.heap.size:=World.block_lt_of_cell? _ _ S0;have hgn2:B.bw≠g2:=fun e=>by
  have hbwM:B.M B.bw=some .eng:=by obtain⟨A,rfl,l,r',g0,t⟩:=T9d.out.ex;exact (r'.mem.all .eng).1
  rw[e,hno] at hbwM;cases hbwM
 have hor:=T9d.out.alloc (.cells #[zi (r.reason:Int)] 3);have GX:=zH hgx;have GL:=zH hgl2;have HOR0:Hid ((v9.drew.alloc (.cells #[zi (r.reason:Int)] 3)).ownsRow 0 3 1 (.slice ao on oc) on (W.gone.map i64)∧on<100000):=⟨(HGO.out _ _ _ _ (by rfl) (by rfl) (by rfl) hor).2.1,hrow43⟩
 have HAD0:Hid (∀ v' w8,w8.ownsRow 0 3 1 v' (on+1) (W.gone.map i64++[zi (r.reason:Int)])→(v9.drew.alloc (.cells #[zi (r.reason:Int)] 3)).grownBy w8 (Value.slice ao on oc).ownBlock→(v'.ownBlock=(Value.slice ao on oc).ownBlock∨∀ g,v'.ownBlock=some g→(v9.drew.alloc (.cells #[zi (r.reason:Int)] 3)).heap.size≤g)→w8.cell? ⟨B.bw,42,none⟩=some (.slice ao on oc)∧w8.frozen? ⟨B.bw,42,none⟩=false∧(∀ a v,a.block<v9.drew.heap.size→(Value.slice ao on oc).ownBlock≠some a.block→v9.drew.cell? a=some v→w8.cell? a=some v)∧∃ B',B'.bw=B.bw∧WK B' be w0 (.obj g3 (.cells #[.bool false,.bool false,.bool false,zi 0,zi 0,zi 0,zu 0,zu 0,zi 0] 40)::.obj g2 (.cells #[zi 3,zi (r.e:Int),zi (r.value:Int),.slice va vn vc,zi 4,zi (r.reason:Int)] 65)::.row 2 (.slice va vn vc) (pairCs r.pairs)::.obj g1 (.cells #[.bool lv,.bool true,.bool wt,zi a1,zi a2,zi a3,zu a4,zu (en:Int),zi a6] 40)::ks) {W with σ:=σ1,deals:=W.deals.set k {pd with state:=4,end_:=en},gone:=W.gone++[r.reason]} (w8.setCell ⟨B.bw,42,none⟩ v')):=fun v' w8 q1 q2 q3=>by
  have hlen:on=W.gone.length:=(by have:=hrow42.1;simpa using this.symm)
  have:=T9d.out.addGone (v':=v') (w':=w8) r.reason ((Below.refl _ v9.drew).alloc (Nat.le_refl _) (.cells #[zi (r.reason:Int)] 3)) (by rw[hlen] at q1;exact q1) (by rw[hvg9];exact q2) (by rw[hvg9];exact q3);rw[hvg9] at this;exact this
 have GN0:=zH (zA hgn2 hgn2);clear GN;have GN:=GN0;clear GN0 hgx hgl2 hor hno hgn2 hvg9 hrow42 hrow43 HGO;refine wp_region_held_drew (S:=fun w'=>w'.cell? ⟨g2,5,none⟩=some (zi (r.reason:Int))) (by kernel_rfl) ?_ (fun hHeld=>?_)
 · (try dsimp only);exact S0
 generalize v9.drew=vd at*;have HOR:=HOR0;have HAD:=HAD0;clear HOR0 HAD0;have y42a:∀ ob,(vd.alloc ob).cell? ⟨B.bw,42,none⟩=some (.slice ao on oc):=fun ob=>cell_alloc_keep y42
 refine zqt (i:=0) rfl hHeld ?_
 (try simp only[zqa,zqb,zqc,Act.put,zqd,zqe,zqf])
 refine zqt (i:=1) rfl hHeld ?_
 (try simp only[zqa,zqb,zqc,Act.put,zqd,zqe,zqf])
 refine zqt (i:=2) rfl hHeld ?_
 (try simp only[zqa,zqb,zqc,Act.put,zqd,zqe,zqf])
 refine zqt (i:=3) rfl hHeld ?_
 (try simp only[zqa,zqb,zqc,Act.put,zqd,zqe,zqf])
 refine zqt (i:=5) rfl hHeld ?_
 (try simp only[zqa,zqb,zqc,Act.put,zqd,zqe,zqf])
 refine zqt (i:=6) rfl hHeld ?_
 (try simp only[zqa,zqb,zqc,Act.put,zqd,zqe,zqf])
 refine zqt (i:=7) rfl hHeld ?_
 (try simp only[zqa,zqb,zqc,Act.put,zqd,zqe,zqf])
 refine wpAnyH_ready (rs:=[4,8]) (by kernel_rfl) (by simp) ?_;refine AllReadyH.cons (o:=_) rfl (fun K hK=>?_) (AllReadyH.cons (o:=_) rfl (fun K hK=>?_) AllReadyH.nil)
 focus (
  go_simp
  refine hK.out _ _ ?_ (fun hHeld=>?_)
  · (try dsimp only);exact hHeld
  clear hK K
  (try simp only[zqa,zqb,zqc,Act.put,zqd,zqe,zqf])
  refine wpAnyH_ready (rs:=[8]) (by kernel_rfl) (by simp) ?_
  refine AllReadyH.cons (o:=_) rfl (fun K hK=>?_) AllReadyH.nil
  go_simp
  refine hK.out _ _ ?_ (fun hHeld=>?_)
  · (try dsimp only);exact cell_alloc_keep hHeld
  clear hK K
  (try simp only[zqa,zqb,zqc,Act.put,zqd,zqe,zqf])
 )
 rotate_left
 focus (
  go_simp
  refine hK.out _ _ ?_ (fun hHeld=>?_)
  · (try dsimp only);exact cell_alloc_keep hHeld
  clear hK K
  (try simp only[zqa,zqb,zqc,Act.put,zqd,zqe,zqf])
  refine wpAnyH_ready (rs:=[4]) (by kernel_rfl) (by simp) ?_
  refine AllReadyH.cons (o:=_) rfl (fun K hK=>?_) AllReadyH.nil
  go_simp
  refine hK.out _ _ ?_ (fun hHeld=>?_)
  · (try dsimp only);exact hHeld
  clear hK K
  (try simp only[zqa,zqb,zqc,Act.put,zqd,zqe,zqf])
 )
 rotate_left
 all_goals (
  refine wpAnyH_ready (rs:=[9]) (by kernel_rfl) (by simp) ?_
  refine AllReadyH.cons (o:=_) rfl (fun K hK=>?_) AllReadyH.nil
  rw[if_pos (by rfl)]
  refine Ow.wp_append_to _ (.tmp 205) (.tmp 209) 35 rfl 0 3 ii _ 1 8 Tryz.underlying35 hii hz0 hz1 hz2 rfl (by decide) (.slice ao on oc) on (W.gone.map i64) rfl (by exact HOR.out.1) ⟨vd.heap.size,0,none⟩ 1 1 (by omega) [zi (r.reason:Int)] rfl rfl (fun j u hu=>Ow.new_row vd [zi (r.reason:Int)] _ vd.heap.size (by simp) j u hu) (by intro u hu;simp at hu;rcases hu with rfl<;>rfl) (by have:=HOR.out.2;unfold maxLen;omega) (by have:=HOR.out.2;omega) (Nat.zero_le _) ?_;intro v' w8 q1 q2 q3;obtain⟨r1,r1f,r3,B',r4,r5⟩:=HAD.out v' w8 q1 q2 q3;obtain⟨av8,cp8,rfl,_⟩:=Ow.own_form q1;have T8:=zH (zA r4 r5);clear q1 q2 q3 r4 r5
  refine hK.out _ _ ?_ (fun hHeld=>?_)
  · (try dsimp only);exact r3 _ _ (by exact GL.out) (by exact GX.out) S0
  clear hK K
  (try simp only[zqa,zqb,zqc,Act.put,zqd,zqe,zqf])
  refine zqt (i:=10) rfl hHeld ?_
  (try simp only[zqa,zqb,zqc,Act.put,zqd,zqe,zqf])
  refine zqt (i:=11) rfl hHeld ?_
  (try simp only[zqa,zqb,zqc,Act.put,zqd,zqe,zqf])
  refine wpAnyH_ready (rs:=[12]) (by kernel_rfl) (by simp) ?_
  refine AllReadyH.cons (o:=_) rfl (fun K hK=>?_) AllReadyH.nil
  go_simp
  refine hK.out _ _ ?_ (fun hHeld=>?_)
  · (try dsimp only);exact cell_set_keep (by exact GN.out.2) hHeld
  clear hK K
  (try simp only[zqa,zqb,zqc,Act.put,zqd,zqe,zqf])
  refine wpAnyH_done (by kernel_rfl) ?_ _
 )
 all_goals (
  clear r1 r1f r3 hHeld S0 HOR HAD GL GX
  generalize w8.setCell _ _=v10 at*
  obtain⟨hbw',hwk⟩:=T8.out
  obtain⟨y2,y2f⟩:=E2.out _ _ _ _ hbw' (by rfl) hwk
  have T10:=zH (F3.out _ _ _ _ hbw' hwk)
  have HBW:=zH hbw'
  have k3:=T10.out.obj List.mem_cons_self
  have z0:=obj_cell k3 0 rfl
  have z1:=obj_cell k3 1 rfl
  have z2:=obj_cell k3 2 rfl
  have z3:=obj_cell k3 3 rfl
  have z4:=obj_cell k3 4 rfl
  have z5:=obj_cell k3 5 rfl
  have z6:=obj_cell k3 6 rfl
  have z7:=obj_cell k3 7 rfl
  have z8:=obj_cell k3 8 rfl
  clear k3 GN E E2 F3 T8 hwk hbw'
  go_wp2
  go_ret
  exact⟨rfl,[_,_,_,_],_,HBW.out,T10.out⟩
 )
end Go.Proofs.YtmgghljjjpcgkaaGreat.Em
