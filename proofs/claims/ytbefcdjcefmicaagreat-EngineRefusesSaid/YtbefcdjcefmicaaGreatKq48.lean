import Derived.Test.YtbefcdjcefmicaaGreatKq47
namespace Go.Proofs.YtbefcdjcefmicaaGreat.Em
open Go.ChangeShapes Go.WideShapes Go.ChangeAt Go.RowKit En
set_option linter.unusedVariables false
set_option linter.unusedSimpArgs false
set_option maxRecDepth 100000
set_option maxHeartbeats 1600000
section
variable {B:WBook} {be:Nat} {w0 w w':World} {ks:List Kept} {W:Wd}
theorem WK.addGone {w1:World} {v':Value} (h:WK B be w0 ks W w) (n:Nat) (hb:Below w.heap.size w w1)
 (ho:w'.ownsRow 0 3 1 v' (W.gone.length+1) (W.gone.map i64++[i64 n])) (hg:w1.grownBy w' B.vg.ownBlock) (h3:v'.ownBlock=B.vg.ownBlock∨∀ g,v'.ownBlock=some g→w1.heap.size≤g):
 w'.cell? ⟨B.bw,42,none⟩=some B.vg∧w'.frozen? ⟨B.bw,42,none⟩=false∧(∀ a v,a.block<w.heap.size→B.vg.ownBlock≠some a.block→w.cell? a=some v→w'.cell? a=some v)∧
 ∃ B',B'.bw=B.bw∧WK B' be w0 ks {W with gone:=W.gone++[n]} (w'.setCell ⟨B.bw,42,none⟩ v'):=by
 have h1:=h.below hb;have hge:∀ b r,B.M b=some r→w0.heap.size≤b:=fun b r=>h1.ge
 obtain⟨A,rfl,l,r,g,t⟩:=h1.ex;have htm:TmpRow A.L B.vg:=fun b hb=>r.tie b _ ((r.mem.all .free).2 b hb)
 obtain⟨L',hrow,htm'⟩:=append_tmp l htm ho hg h3;have hgr:=r.mem.grown .free (v:=B.vg) (v':=v') (n':=W.gone.length+1) rfl hg ho h3;obtain⟨hm,hgm⟩:=hgr;have hc1:=hm.cell (r:=.eng) (b:=B.bw) (cs:=worldCs A.be B W) (T:=35) (updE_other _ _ (by simp)) 42 (v:=B.vg) (worldCs_gone r.i8 r.o8);have hc2:=hm.frozen (r:=.eng) (b:=B.bw) (cs:=worldCs A.be B W) (T:=35) (updE_other _ _ (by simp)) 42;have hp:=hm.put .eng (b:=B.bw) (cs:=worldCs A.be B W) (T:=35) (updE_other _ _ (by simp)) 42 v';rw[worldCs_setGone r.i8 r.o8] at hp;have hbw:B.M B.bw=some .eng:=(r.mem.all .eng).1;have hlt:B.bw<w1.heap.size:=r.lt hbw;have hlb:L' B.bw=some .tmp:=(hrow.lab _ hlt).trans (r.tie _ _ hbw);have hbut:=But.setCell w' ⟨B.bw,42,none⟩ v';have hsoft:=hbut.soft hlb;refine⟨hc1,hc2,fun a v ha hna hc=>?_,{B with M:=labV B.M v' .free,vg:=v'},rfl,{A with L:=L'},rfl,?_,⟨fun b q hbq=>?_,⟨fun q=>?_,hp.fresh⟩,fun k p hk=>?_,r.dl,r.i8,r.o8⟩,?_,Kepts.soft hsoft (Kepts.soft hrow.soft t)⟩
 · rw[World.cell?_of_block (w:=w) ((hg.block a.block (Nat.lt_of_lt_of_le ha hb.size) (fun e=>hna e.symm)).trans (hb.block a.block ha))];exact hc
 · exact (l.rown hrow).but hlb hbut
 · replace hbq:labV B.M v' .free b=some q:=hbq
   unfold labV at hbq
   split at hbq
   · rename_i hv
     exact htm' b hv
   · exact (hrow.lab b (r.lt hbq)).trans (r.tie b q hbq)
 · have hq:=hp.all q
   cases q with
   |eng=>exact hq
   |free=>
    rw[updE_other _ _ (by simp),updE_same] at hq;show Entry.Holds _ _ _ (.own v' _ 1 (W.gone++[n]).length ((W.gone++[n]).map i64));rw[List.map_append,List.length_append];exact hq
   |tale=>rw[updE_other _ _ (by simp),updE_other _ _ (by simp)] at hq;exact hq
   |reads k=>rw[updE_other _ _ (by simp),updE_other _ _ (by simp)] at hq;exact hq
   |_=>trivial
 · exact ((r.cls k p hk).soft hrow.soft).soft hsoft
 · exact (g.rown hrow (fun b hb=>hge b _ ((r.mem.all .free).2 b hb))).but (hge _ _ hbw) hbut
end
theorem infoGo:(Tryz.prog.info? 3).map (fun i=>(i.zero,i.size,i.bytes))=some (some (zi 0),1,8):=by kernel_rfl
set_option maxHeartbeats 16000000 in
theorem wstep_gone {B:WBook} {be:Nat} {w0 w:World} {ks:List Kept} {W:Wd} (h:WK B be w0 ks W w) {s:Nat} (hs:s<8) {σ1:St} {r:Res} (hbe:oneStep W.σ s=some (σ1,3,r)) (hbz:(W.σ.status s).busy=true) (hl1:σ1.looks≤W.σ.looks+1) (hl2:W.σ.looks≤σ1.looks) (hl3:W.σ.looks<1000000000000000) (hov:r.over=4) (hgl:W.gone.length<100000) {k:Nat} (hid:W.ids.getD s 0=k+1) {p:Dl} (hp:W.deals[k]? =some p) (hdl:W.deals.length<100000) (hnz:σ1.status s={}):
 Calls Tryz.prog 22 #[.pointer (some ⟨B.bw,0,none⟩),zi (s:Int)] w fun e w'=>e=.returned (.bool true)∧∃ ks' B',B'.bw=B.bw∧WK B' be w0 (ks'++ks) {W with σ:=σ1,deals:=W.deals.set k {p with state:=4,end_:=(W.σ.status s).end_},ids:=W.ids.set s 0,gone:=W.gone++[r.reason]} w':=by
 obtain⟨ii,hii,hz0,hz1,hz2⟩:=info_parts infoGo;obtain⟨ao,oc,hvg,_,_,_⟩:=Ow.own_form h.gone;obtain⟨on,hon⟩:∃ on,on=W.gone.length:=⟨_,rfl⟩
 rw[←hon] at hvg hgl;have HGO:Hid (∀ B1 ks W1 w1,B1.bw=B.bw→B1.vg=B.vg→W1.gone=W.gone→WK B1 be w0 ks W1 w1→w1.cell? ⟨B.bw,42,none⟩=some (.slice ao on oc)∧w1.ownsRow 0 3 1 (.slice ao on oc) on (W.gone.map i64)∧on<100000∧B1.vg=.slice ao on oc):=fun B1 ks W1 w1 e1 e2 e3 q=>by
  have y:=(q.wcell 42 (worldCs_gone q.i8 q.o8)).1;have y2:=q.gone;rw[e1,e2,hvg] at y;rw[e2,e3,hvg,←hon] at y2;exact⟨y,y2,hgl,by rw[e2,hvg]⟩
 clear hvg hgl hon;obtain⟨lv,wt,a1,a2,a3,a4,en,a6,hst,hen⟩:∃ lv wt a1 a2 a3 a4,∃ en:Nat,∃ a6,statusCs (W.σ.status s)=#[.bool lv,.bool true,.bool wt,zi a1,zi a2,zi a3,zu a4,zu (en:Int),zi a6]∧en=(W.σ.status s).end_:=by
  refine⟨(W.σ.status s).live,(W.σ.status s).waits,((W.σ.status s).id:Int),((W.σ.status s).level:Int),((W.σ.status s).state:Int),((W.σ.status s).begin_:Int),(W.σ.status s).end_,((W.σ.status s).ops:Int),?_,rfl⟩;unfold statusCs;rw[hbz]
 obtain⟨lk,hlk⟩:∃ lk,lk=W.σ.looks:=⟨_,rfl⟩
 obtain⟨lk1,hlk1⟩:∃ lk1,lk1=σ1.looks:=⟨_,rfl⟩
 rw[←hlk] at hl1 hl2 hl3;rw[←hlk1] at hl1 hl2;have hst1:statusCs (σ1.status s)=#[.bool false,.bool false,.bool false,zi 0,zi 0,zi 0,zu 0,zu 0,zi 0]:=by rw[hnz];rfl
 rw[←hen];clear hnz hbz hen;have hl:=h.dl;have hln:=h.dlen;obtain⟨⟨pd,pv⟩,hk,hpd⟩:∃ q,B.ds[k]? =some q∧q.1=p:=by
  rw[←hl,List.getElem?_map] at hp
  cases hq:B.ds[k]? with
  |none=>rw[hq] at hp;cases hp
  |some q=>rw[hq] at hp;exact⟨q,rfl,Option.some.inj hp⟩
 obtain rfl:pd=p:=hpd;obtain⟨gd,cap,hvd,_,_,hgm,_⟩:=h.deal hk;have hkl:k<W.deals.length:=(List.getElem?_eq_some_iff.1 hp).1;obtain⟨n,hn⟩:∃ n,n=W.deals.length:=⟨_,rfl⟩
 have hvd0:=hvd;rw[hln,←hn] at hvd;have E:Hid (∀ B1 ks W1 w1,B1.bw=B.bw→B1.vd=B.vd→WK B1 be w0 ks W1 w1→w1.cell? ⟨B.bw,1,none⟩=some (.slice (some ⟨gd,0,none⟩) n cap)):=fun B1 ks W1 w1 e1 e2 q=>by
  have y1:=(q.wcell 1 rfl).1;rw[e1,e2,hvd] at y1;exact y1
 have E2:Hid (∀ B1 ks W1 w1,B1.bw=B.bw→W1.ids=W.ids→WK B1 be w0 ks W1 w1→w1.cell? ⟨B.bw,2+s,none⟩=some (zi ((k:Int)+1))∧w1.frozen? ⟨B.bw,2+s,none⟩=false):=fun B1 ks W1 w1 e1 e2 q=>by
  have y2:=q.wcell (2+s) (worldCs_id (W:=W1) q.i8 hs);rw[e1,e2,hid] at y2;exact y2
 have F1:Hid (∀ ks w1,WK B be w0 ks {W with σ:=σ1} w1→w1.cell? ⟨gd,k*6+2,none⟩=some (i64 pd.state)∧w1.frozen? ⟨gd,k*6+2,none⟩=false∧WK {B with ds:=B.ds.set k ({pd with state:=4},pv)} be w0 ks {W with σ:=σ1,deals:=W.deals.set k {pd with state:=4}} (w1.setCell ⟨gd,k*6+2,none⟩ (zi 4))):=fun ks w1 q=>by
  obtain⟨gd',cap',hv',_,_,_,hf⟩:=q.deal hk;rw[hvd0] at hv';simp only[Value.slice.injEq,Option.some.injEq,Addr.mk.injEq,and_true,true_and] at hv';obtain⟨rfl,rfl⟩:=hv';obtain⟨f1,f2⟩:=hf 2 (i64 pd.state) (by omega) rfl;exact⟨f1,f2,q.setDeal hk (j:=2) (by omega) (zi 4) {pd with state:=4} rfl rfl hvd0⟩
 have F2:Hid (∀ ks w1,WK {B with ds:=B.ds.set k ({pd with state:=4},pv)} be w0 ks {W with σ:=σ1,deals:=W.deals.set k {pd with state:=4}} w1→w1.cell? ⟨gd,k*6+4,none⟩=some (u64 pd.end_)∧w1.frozen? ⟨gd,k*6+4,none⟩=false∧WK {B with ds:=B.ds.set k ({pd with state:=4,end_:=en},pv)} be w0 ks {W with σ:=σ1,deals:=W.deals.set k {pd with state:=4,end_:=en}} (w1.setCell ⟨gd,k*6+4,none⟩ (zu (en:Int)))):=fun ks w1 q=>by
  have hk2:({B with ds:=B.ds.set k ({pd with state:=4},pv)}:WBook).ds[k]? =some ({pd with state:=4},pv):=by
   show (B.ds.set k _)[k]? =_;rw[List.getElem?_set_self (by rw[hln];exact hkl)]
  have hvd2:({B with ds:=B.ds.set k ({pd with state:=4},pv)}:WBook).vd=.slice (some ⟨gd,0,none⟩) (B.ds.set k ({pd with state:=4},pv)).length cap:=by rw[List.length_set];exact hvd0
  obtain⟨gd',cap',hv',_,_,_,hf⟩:=q.deal hk2;rw[hvd2] at hv';simp only[Value.slice.injEq,Option.some.injEq,Addr.mk.injEq,and_true,true_and] at hv';obtain⟨rfl,rfl⟩:=hv';obtain⟨f1,f2⟩:=hf 4 (u64 pd.end_) (by omega) rfl;have h9:=q.setDeal hk2 (j:=4) (by omega) (zu (en:Int)) {pd with state:=4,end_:=en} rfl rfl hvd2;simp only[List.set_set] at h9;exact⟨f1,f2,h9⟩
 have F3:Hid (∀ B1 ks W1 w1,B1.bw=B.bw→WK B1 be w0 ks W1 w1→WK B1 be w0 ks {W1 with ids:=W1.ids.set s 0} (w1.setCell ⟨B.bw,2+s,none⟩ (zi 0))):=fun B1 ks W1 w1 e1 q=>by
  have:=q.putId hs 0;rw[e1] at this;exact this
 have HNE:Hid (∀ ks w1 g g' ob ob',WK B be w0 ks {W with σ:=σ1} w1→Kept.obj g ob∈ks→Kept.obj g' ob'∈ks→gd≠B.bw∧gd≠g∧gd≠g'):=fun ks w1 g g' ob ob' q hm hm'=>by
  have hbw:B.M B.bw=some .eng:=by obtain⟨A,rfl,l,r',g0,t⟩:=q.ex;exact (r'.mem.all .eng).1
  have hno:=q.keptNo hm;have hno':=q.keptNo hm';refine⟨fun e=>?_,fun e=>?_,fun e=>?_⟩
  · rw[e,hbw] at hgm;cases hgm
  · rw[e,hno] at hgm;cases hgm
  · rw[e,hno'] at hgm;cases hgm
 have m2:((k:Int)<0)=False:=by simp
 have m3:decide ((k:Int)<0)=false:=by simp
 have m4:((n:Int)≤(k:Int))=False:=by simp;omega
 have m5:decide ((n:Int)≤(k:Int))=false:=by simp;omega
 have m6:(n≤k)=False:=by simp;omega
 have m7:(k:Int)<(n:Int):=by omega
 have m8:(0:Int)≤(k:Int):=by omega
 have m9:k<n:=by omega
 have kb:k<100000:=by omega
 have m1:IntKind.i64.wrap (k:Int)=(k:Int):=by rw[IntKind.wrap_i64];omega
 clear hid hp hdl hl hln hk hvd hvd0 hgm hkl hn;have N1:Hid (∀ ks w1,WK B be w0 ks W w1→Calls Tryz.prog 18 #[.pointer (some ⟨be,0,none⟩),zi (s:Int)] w1 fun e w'=>e=.returned (.agg #[.bool lv,.bool true,.bool wt,zi a1,zi a2,zi a3,zu a4,zu (en:Int),zi a6])∧WK B be w0 ks W w'):=fun ks w1 q=>by
  have hh:=status_wk q s hs;rw[hst] at hh;exact hh
 have N2:Hid (∀ ks w1,WK B be w0 ks W w1→Calls Tryz.prog 29 #[.pointer (some ⟨be,0,none⟩)] w1 fun e w'=>e=.returned (zi (lk:Int))∧w1=w'):=fun ks w1 q=>by
  have hh:=looks_wk q;rw[←hlk] at hh;exact hh
 have N3:Hid (∀ ks w1,WK B be w0 ks W w1→Calls Tryz.prog 19 #[.pointer (some ⟨be,0,none⟩),zi (s:Int)] w1 fun e w'=>∃ va vn vc,e=.returned (.tuple #[.agg #[zi 3,zi (r.e:Int),zi (r.value:Int),.slice va vn vc,zi 4,zi (r.reason:Int)],zi 0])∧WK B be w0 (.row 2 (.slice va vn vc) (pairCs r.pairs)::ks) {W with σ:=σ1} w'):=fun ks w1 q=>by
  refine (step_wk q hs hbe).mono ?_;rintro e w' ⟨va,vn,vc,rfl,hvn,q⟩;rw[hov];exact⟨va,vn,vc,rfl,q⟩
 have N4:Hid (∀ ks w1,WK B be w0 ks {W with σ:=σ1} w1→Calls Tryz.prog 29 #[.pointer (some ⟨be,0,none⟩)] w1 fun e w'=>e=.returned (zi (lk1:Int))∧w1=w'):=fun ks w1 q=>by
  have hh:=looks_wk q;rw[←hlk1] at hh;exact hh
 have N5:Hid (∀ ks w1,WK B be w0 ks {W with σ:=σ1} w1→Calls Tryz.prog 18 #[.pointer (some ⟨be,0,none⟩),zi (s:Int)] w1 fun e w'=>e=.returned (.agg #[.bool false,.bool false,.bool false,zi 0,zi 0,zi 0,zu 0,zu 0,zi 0])∧WK B be w0 ks {W with σ:=σ1} w'):=fun ks w1 q=>by
  have hh:=status_wk q s hs;rw[hst1] at hh;exact hh
 have C:Hid (∀ σ' ks w1,WK B be w0 ks {W with σ:=σ'} w1→w1.cell? ⟨B.bw,0,none⟩=some (.pointer (some ⟨be,0,none⟩))):=fun σ' ks w1 q=>(q.wcell 0 rfl).1
 have O1:Hid (∀ ks W1 w1 g,WK B be w0 (.obj g (.cells #[.bool lv,.bool true,.bool wt,zi a1,zi a2,zi a3,zu a4,zu (en:Int),zi a6] 38)::ks) W1 w1→w1.cell? ⟨g,1,none⟩=some (.bool true)∧w1.cell? ⟨g,7,none⟩=some (zu (en:Int))):=fun ks W1 w1 g q=>by
  have hb:=q.obj (List.mem_cons_self);exact⟨obj_cell hb 1 rfl,obj_cell hb 7 rfl⟩
 have b0:((s:Int)<0)=False:=by simp
 have b1:((7:Int)<(s:Int))=False:=by simp;omega
 have b2:(0:Int)≤(s:Int):=by omega
 have b3:(s:Int)<8:=by omega
 have b4:decide ((s:Int)<0)=false:=by simp
 have b5:decide ((7:Int)<(s:Int))=false:=by simp;omega
 have b6:(7<s)=False:=by simp;omega
 have n1:IntKind.i64.wrap ((lk:Int)+1)=(lk:Int)+1:=by rw[IntKind.wrap_i64];omega
 have c1:((lk:Int)+1<(lk1:Int))=False:=by simp;omega
 have c2:decide ((lk:Int)+1<(lk1:Int))=false:=by simp;omega
 have c3:((lk1:Int)<(lk:Int))=False:=by simp;omega
 have c4:decide ((lk1:Int)<(lk:Int))=false:=by simp;omega
 have c5:(lk1<lk)=False:=by simp;omega
 have m0:wrap64 (k:Int)=(k:Int):=by unfold wrap64;omega
 clear kb;have T0:=zH h;have x0:=C.out W.σ _ _ T0.out;clear hst hst1 hlk hlk1 hl1 hl2 hl3 hbe h hs hov;go_enter Tryz.func22,Tryz.ntmps22;go_upto_region 11 with (first|(go_at_call 18;refine (N1.out _ _ T0.out).mono ?_;clear T0;rintro e w1 ⟨rfl,q⟩;have x1:=C.out W.σ _ _ (q.alloc (.cells #[.bool lv,.bool true,.bool wt,zi a1,zi a2,zi a3,zu a4,zu (en:Int),zi a6] 38));have T1:=zH (q.alloc (.cells #[.bool lv,.bool true,.bool wt,zi a1,zi a2,zi a3,zu a4,zu (en:Int),zi a6] 38));clear q)|(go_at_call 29;refine (N2.out _ _ T1.out).mono ?_;rintro e w' ⟨rfl,rfl⟩;have T2:=T1;clear T1)|(go_at_call 19;refine (N3.out _ _ T2.out).mono ?_;clear T2;rintro e w3 ⟨va,vn,vc,rfl,q⟩;have q2:=q.alloc (.cells #[zi 3,zi (r.e:Int),zi (r.value:Int),.slice va vn vc,zi 4,zi (r.reason:Int)] 44);have x3:=C.out σ1 _ _ q2;obtain⟨y1,y2⟩:=O1.out _ _ _ _ q2.tail.tail;have T3:=zH q2;clear q q2)|(go_at_call 29;refine (N4.out _ _ T3.out).mono ?_;rintro e w' ⟨rfl,rfl⟩)|(go_at_call 18;refine (N5.out _ _ T3.out).mono ?_;clear T3;rintro e w6 ⟨rfl,q⟩;have q2:=q.alloc (.cells #[.bool false,.bool false,.bool false,zi 0,zi 0,zi 0,zu 0,zu 0,zi 0] 38);have T6:=zH q2;clear q q2))
 generalize hv6:w6.alloc _=v6 at*;generalize w1.heap.size=g1 at*;generalize w3.heap.size=g2 at*;generalize w6.heap.size=g3 at*;have x6:=C.out σ1 _ _ T6.out;have k3:=T6.out.obj List.mem_cons_self;have k2:=T6.out.tail.obj List.mem_cons_self;have k1:=T6.out.tail.tail.tail.obj List.mem_cons_self;have z30:=obj_cell k3 0 rfl;have z31:=obj_cell k3 1 rfl;have z32:=obj_cell k3 2 rfl;have z20:=obj_cell k2 0 rfl;have z21:=obj_cell k2 1 rfl;have z22:=obj_cell k2 2 rfl;have z23:=obj_cell k2 3 rfl;have z24:=obj_cell k2 4 rfl;have z25:=obj_cell k2 5 rfl;have z17:=obj_cell k1 7 rfl;clear k1 k2 k3 hv6 N1 N2 N3 N4 N5 C O1 b0 b1 b4 b5 b6 c1 c2 c3 c4 c5 n1;have y1:=E.out _ _ _ _ (by rfl) (by rfl) T6.out;obtain⟨y2,y2f⟩:=E2.out _ _ _ _ (by rfl) (by rfl) T6.out;go_upto_region 22 with fail
 have T7:=zH T6.out.drew;have GN:=zH (HNE.out _ _ g2 g1 _ _ T7.out (List.mem_cons_of_mem _ List.mem_cons_self) (List.mem_cons_of_mem _ (List.mem_cons_of_mem _ (List.mem_cons_of_mem _ List.mem_cons_self))));obtain⟨f1,f2,f3⟩:=F1.out _ _ T7.out;have T8:=zH f3;have S0:v6.drew.cell? ⟨B.bw,1,none⟩=some (.slice (some ⟨gd,0,none⟩) n cap)∧v6.drew.cell? ⟨g2,4,none⟩=some (zi 4):=⟨y1,z24⟩
 clear f3 HNE F1 T6 z20 z21 z22 z24 z25 z30 z31 z32 x6 m1 m0 y2 y2f y1 z23 z17;refine wp_region_held_drew (S:=fun w'=>w'.cell? ⟨B.bw,1,none⟩=some (.slice (some ⟨gd,0,none⟩) n cap)∧w'.cell? ⟨g2,4,none⟩=some (zi 4)) (by kernel_rfl) ?_ (fun hHeld=>?_)
 · (try dsimp only);exact S0
 generalize v6.drew=vd at*;refine zqt (i:=0) (v:=?_) rfl (by kernel_rfl) (fun _ _ _ h=>h) (Or.inl ⟨by rfl,?_⟩) hHeld ?_;rotate_left
 · (intro w hSw;(try dsimp only at hSw);go_simp;(try with_reducible rfl))
 (try simp only[zqa,zqb,zqc,Act.put,zqd,zqe,zqf])
 refine zqt (i:=1) (v:=?_) rfl (by kernel_rfl) (fun _ _ _ h=>h) (Or.inl ⟨by rfl,?_⟩) hHeld ?_;rotate_left
 · (intro w hSw;(try dsimp only at hSw);go_simp;(try with_reducible rfl))
 (try simp only[zqa,zqb,zqc,Act.put,zqd,zqe,zqf])
 refine zqt (i:=2) (v:=?_) rfl (by kernel_rfl) (fun _ _ _ h=>h) (Or.inl ⟨by rfl,?_⟩) hHeld ?_;rotate_left
 · (intro w hSw;(try dsimp only at hSw);go_simp;(try with_reducible rfl))
 (try simp only[zqa,zqb,zqc,Act.put,zqd,zqe,zqf])
 refine zqt (i:=3) (v:=?_) rfl (by kernel_rfl) (fun _ _ _ h=>h) (Or.inl ⟨by rfl,?_⟩) hHeld ?_;rotate_left
 · (intro w hSw;(try dsimp only at hSw);go_simp;(try with_reducible rfl))
 (try simp only[zqa,zqb,zqc,Act.put,zqd,zqe,zqf])
 refine zqt (i:=4) (v:=?_) rfl (by kernel_rfl) (fun _ _ _ h=>h) (Or.inl ⟨by rfl,?_⟩) hHeld ?_;rotate_left
 · (intro w hSw;(try dsimp only at hSw);go_simp;(try with_reducible rfl))
 (try simp only[zqa,zqb,zqc,Act.put,zqd,zqe,zqf])
 refine zqt (i:=5) (v:=?_) rfl (by kernel_rfl) (fun _ _ _ h=>h) (Or.inl ⟨by rfl,?_⟩) hHeld ?_;rotate_left
 · (intro w hSw;(try dsimp only at hSw);go_simp;(try with_reducible rfl))
 (try simp only[zqa,zqb,zqc,Act.put,zqd,zqe,zqf])
 refine zqt (i:=6) (v:=?_) rfl (by kernel_rfl) (fun _ _ _ h=>h) (Or.inl ⟨by rfl,?_⟩) hHeld ?_;rotate_left
 · (intro w hSw;(try dsimp only at hSw);go_simp;(try with_reducible rfl))
 (try simp only[zqa,zqb,zqc,Act.put,zqd,zqe,zqf])
 refine zqt (i:=7) (v:=?_) rfl (by kernel_rfl) (fun _ _ _ h=>h) (Or.inl ⟨by rfl,?_⟩) hHeld ?_;rotate_left
 · (intro w hSw;(try dsimp only at hSw);go_simp;(try with_reducible rfl))
 (try simp only[zqa,zqb,zqc,Act.put,zqd,zqe,zqf])
 refine zqt (i:=8) (v:=?_) rfl (by kernel_rfl) (fun _ _ _ h=>h) (Or.inl ⟨by rfl,?_⟩) hHeld ?_;rotate_left
 · (intro w hSw;(try dsimp only at hSw);go_simp;(try with_reducible rfl))
 (try simp only[zqa,zqb,zqc,Act.put,zqd,zqe,zqf])
 refine zqt (i:=9) (v:=?_) rfl (by kernel_rfl) (fun _ _ _ h=>h) (Or.inl ⟨by rfl,?_⟩) hHeld ?_;rotate_left
 · (intro w hSw;(try dsimp only at hSw);go_simp;(try with_reducible rfl))
 (try simp only[zqa,zqb,zqc,Act.put,zqd,zqe,zqf])
 refine wpAnyH_ready (rs:=[10]) (by kernel_rfl) (by simp) ?_;refine AllReadyH.cons (o:=_) rfl (fun K hK=>?_) AllReadyH.nil;go_simp;refine hK.out _ _ ?_ (fun hHeld=>?_)
 · (try dsimp only);exact⟨cell_set_keep (by exact GN.out.1) hHeld.1,cell_set_keep (by exact GN.out.2.1) hHeld.2⟩
 clear hK K
 (try simp only[zqa,zqb,zqc,Act.put,zqd,zqe,zqf])
 refine wpAnyH_done (by kernel_rfl) ?_ _;generalize vd.setCell _ _=v8 at*;have y1:=E.out _ _ _ _ (by rfl) (by rfl) T8.out;have z17:=obj_cell (T8.out.tail.tail.tail.obj List.mem_cons_self) 7 rfl;clear hHeld S0 f1 f2 T7;go_upto_region 23 with fail
 obtain⟨f1,f2,f3⟩:=F2.out _ _ T8.out.drew;have T9:=zH f3;have S0:v8.drew.cell? ⟨B.bw,1,none⟩=some (.slice (some ⟨gd,0,none⟩) n cap)∧v8.drew.cell? ⟨g1,7,none⟩=some (zu (en:Int)):=⟨y1,z17⟩
 clear f3 F2 y1 z17;refine wp_region_held_drew (S:=fun w'=>w'.cell? ⟨B.bw,1,none⟩=some (.slice (some ⟨gd,0,none⟩) n cap)∧w'.cell? ⟨g1,7,none⟩=some (zu (en:Int))) (by kernel_rfl) ?_ (fun hHeld=>?_)
 · (try dsimp only);exact S0
 generalize v8.drew=ve at*;refine zqt (i:=0) (v:=?_) rfl (by kernel_rfl) (fun _ _ _ h=>h) (Or.inl ⟨by rfl,?_⟩) hHeld ?_;rotate_left
 · (intro w hSw;(try dsimp only at hSw);go_simp;(try with_reducible rfl))
 (try simp only[zqa,zqb,zqc,Act.put,zqd,zqe,zqf])
 refine zqt (i:=1) (v:=?_) rfl (by kernel_rfl) (fun _ _ _ h=>h) (Or.inl ⟨by rfl,?_⟩) hHeld ?_;rotate_left
 · (intro w hSw;(try dsimp only at hSw);go_simp;(try with_reducible rfl))
 (try simp only[zqa,zqb,zqc,Act.put,zqd,zqe,zqf])
 refine zqt (i:=2) (v:=?_) rfl (by kernel_rfl) (fun _ _ _ h=>h) (Or.inl ⟨by rfl,?_⟩) hHeld ?_;rotate_left
 · (intro w hSw;(try dsimp only at hSw);go_simp;(try with_reducible rfl))
 (try simp only[zqa,zqb,zqc,Act.put,zqd,zqe,zqf])
 refine zqt (i:=3) (v:=?_) rfl (by kernel_rfl) (fun _ _ _ h=>h) (Or.inl ⟨by rfl,?_⟩) hHeld ?_;rotate_left
 · (intro w hSw;(try dsimp only at hSw);go_simp;(try with_reducible rfl))
 (try simp only[zqa,zqb,zqc,Act.put,zqd,zqe,zqf])
 refine zqt (i:=4) (v:=?_) rfl (by kernel_rfl) (fun _ _ _ h=>h) (Or.inl ⟨by rfl,?_⟩) hHeld ?_;rotate_left
 · (intro w hSw;(try dsimp only at hSw);go_simp;(try with_reducible rfl))
 (try simp only[zqa,zqb,zqc,Act.put,zqd,zqe,zqf])
 refine zqt (i:=5) (v:=?_) rfl (by kernel_rfl) (fun _ _ _ h=>h) (Or.inl ⟨by rfl,?_⟩) hHeld ?_;rotate_left
 · (intro w hSw;(try dsimp only at hSw);go_simp;(try with_reducible rfl))
 (try simp only[zqa,zqb,zqc,Act.put,zqd,zqe,zqf])
 refine zqt (i:=6) (v:=?_) rfl (by kernel_rfl) (fun _ _ _ h=>h) (Or.inl ⟨by rfl,?_⟩) hHeld ?_;rotate_left
 · (intro w hSw;(try dsimp only at hSw);go_simp;(try with_reducible rfl))
 (try simp only[zqa,zqb,zqc,Act.put,zqd,zqe,zqf])
 refine zqt (i:=7) (v:=?_) rfl (by kernel_rfl) (fun _ _ _ h=>h) (Or.inl ⟨by rfl,?_⟩) hHeld ?_;rotate_left
 · (intro w hSw;(try dsimp only at hSw);go_simp;(try with_reducible rfl))
 (try simp only[zqa,zqb,zqc,Act.put,zqd,zqe,zqf])
 refine zqt (i:=8) (v:=?_) rfl (by kernel_rfl) (fun _ _ _ h=>h) (Or.inl ⟨by rfl,?_⟩) hHeld ?_;rotate_left
 · (intro w hSw;(try dsimp only at hSw);go_simp;(try with_reducible rfl))
 (try simp only[zqa,zqb,zqc,Act.put,zqd,zqe,zqf])
 refine wpAnyH_ready (rs:=[9]) (by kernel_rfl) (by simp) ?_;refine AllReadyH.cons (o:=_) rfl (fun K hK=>?_) AllReadyH.nil;go_simp;refine hK.out _ _ ?_ (fun hHeld=>?_)
 · (try dsimp only);exact⟨cell_set_keep (by exact GN.out.1) hHeld.1,cell_set_keep (by exact GN.out.2.2) hHeld.2⟩
 clear hK K
 (try simp only[zqa,zqb,zqc,Act.put,zqd,zqe,zqf])
 refine wpAnyH_done (by kernel_rfl) ?_ _;generalize ve.setCell _ _=v9 at*;have k2:=T9.out.tail.obj List.mem_cons_self;have z24:=obj_cell k2 4 rfl;clear k2 hHeld S0 f1 f2 T8;go_upto_region 25 with fail
 have T9d:=zH T9.out.drew;have S0:v9.drew.cell? ⟨g2,5,none⟩=some (zi (r.reason:Int)):=obj_cell (T9d.out.tail.obj List.mem_cons_self) 5 rfl;obtain⟨y42,hrow42,hrow43,hvg9⟩:=HGO.out _ _ _ _ (by rfl) (by rfl) (by rfl) T9d.out;have z42:=(T9d.out.wcell 42 (worldCs_gone T9d.out.i8 T9d.out.o8)).2;have hno:=T9d.out.keptNo (List.mem_cons_of_mem _ List.mem_cons_self);have hgx:(Value.slice ao on oc).ownBlock≠some g2:=fun e=>by
  obtain⟨A,rfl,l,r',g0,t⟩:=T9d.out.ex;have:=(r'.mem.all .free).2 g2 (by rw[hvg9];exact e);rw[hno] at this;cases this
 have hgl2:g2<v9.drew.heap.size:=World.block_lt_of_cell? _ _ S0;have hgn2:B.bw≠g2:=fun e=>by
  have hbwM:B.M B.bw=some .eng:=by obtain⟨A,rfl,l,r',g0,t⟩:=T9d.out.ex;exact (r'.mem.all .eng).1
  rw[e,hno] at hbwM;cases hbwM
 have hor:=T9d.out.alloc (.cells #[zi (r.reason:Int)] 3);have GX:=zH hgx;have GL:=zH hgl2;have HOR0:Hid ((v9.drew.alloc (.cells #[zi (r.reason:Int)] 3)).ownsRow 0 3 1 (.slice ao on oc) on (W.gone.map i64)∧on<100000):=⟨(HGO.out _ _ _ _ (by rfl) (by rfl) (by rfl) hor).2.1,hrow43⟩
 have HAD0:Hid (∀ v' w8,w8.ownsRow 0 3 1 v' (on+1) (W.gone.map i64++[zi (r.reason:Int)])→(v9.drew.alloc (.cells #[zi (r.reason:Int)] 3)).grownBy w8 (Value.slice ao on oc).ownBlock→(v'.ownBlock=(Value.slice ao on oc).ownBlock∨∀ g,v'.ownBlock=some g→(v9.drew.alloc (.cells #[zi (r.reason:Int)] 3)).heap.size≤g)→w8.cell? ⟨B.bw,42,none⟩=some (.slice ao on oc)∧w8.frozen? ⟨B.bw,42,none⟩=false∧(∀ a v,a.block<v9.drew.heap.size→(Value.slice ao on oc).ownBlock≠some a.block→v9.drew.cell? a=some v→w8.cell? a=some v)∧∃ B',B'.bw=B.bw∧WK B' be w0 (.obj g3 (.cells #[.bool false,.bool false,.bool false,zi 0,zi 0,zi 0,zu 0,zu 0,zi 0] 38)::.obj g2 (.cells #[zi 3,zi (r.e:Int),zi (r.value:Int),.slice va vn vc,zi 4,zi (r.reason:Int)] 44)::.row 2 (.slice va vn vc) (pairCs r.pairs)::.obj g1 (.cells #[.bool lv,.bool true,.bool wt,zi a1,zi a2,zi a3,zu a4,zu (en:Int),zi a6] 38)::ks) {W with σ:=σ1,deals:=W.deals.set k {pd with state:=4,end_:=en},gone:=W.gone++[r.reason]} (w8.setCell ⟨B.bw,42,none⟩ v')):=fun v' w8 q1 q2 q3=>by
  have hlen:on=W.gone.length:=(by have:=hrow42.1;simpa using this.symm)
  have:=T9d.out.addGone (v':=v') (w':=w8) r.reason ((Below.refl _ v9.drew).alloc (Nat.le_refl _) (.cells #[zi (r.reason:Int)] 3)) (by rw[hlen] at q1;exact q1) (by rw[hvg9];exact q2) (by rw[hvg9];exact q3);rw[hvg9] at this;exact this
 have GN0:=zH (zA hgn2 hgn2);clear GN;have GN:=GN0;clear GN0 hgx hgl2 hor hno hgn2 hvg9 hrow42 hrow43 HGO;refine wp_region_held_drew (S:=fun w'=>w'.cell? ⟨g2,5,none⟩=some (zi (r.reason:Int))) (by kernel_rfl) ?_ (fun hHeld=>?_)
 · (try dsimp only);exact S0
 generalize v9.drew=vd at*;have HOR:=HOR0;have HAD:=HAD0;clear HOR0 HAD0;have y42a:∀ ob,(vd.alloc ob).cell? ⟨B.bw,42,none⟩=some (.slice ao on oc):=fun ob=>cell_alloc_keep y42
 refine zqt (i:=0) (v:=?_) rfl (by kernel_rfl) (fun _ _ _ h=>h) (Or.inl ⟨by rfl,?_⟩) hHeld ?_;rotate_left
 · (intro w hSw;(try dsimp only at hSw);go_simp;(try with_reducible rfl))
 (try simp only[zqa,zqb,zqc,Act.put,zqd,zqe,zqf])
 refine zqt (i:=1) (v:=?_) rfl (by kernel_rfl) (fun _ _ _ h=>h) (Or.inl ⟨by rfl,?_⟩) hHeld ?_;rotate_left
 · (intro w hSw;(try dsimp only at hSw);go_simp;(try with_reducible rfl))
 (try simp only[zqa,zqb,zqc,Act.put,zqd,zqe,zqf])
 refine zqt (i:=2) (v:=?_) rfl (by kernel_rfl) (fun _ _ _ h=>h) (Or.inl ⟨by rfl,?_⟩) hHeld ?_;rotate_left
 · (intro w hSw;(try dsimp only at hSw);go_simp;(try with_reducible rfl))
 (try simp only[zqa,zqb,zqc,Act.put,zqd,zqe,zqf])
 refine zqt (i:=3) (v:=?_) rfl (by kernel_rfl) (fun _ _ _ h=>h) (Or.inl ⟨by rfl,?_⟩) hHeld ?_;rotate_left
 · (intro w hSw;(try dsimp only at hSw);go_simp;(try with_reducible rfl))
 (try simp only[zqa,zqb,zqc,Act.put,zqd,zqe,zqf])
 refine zqt (i:=5) (v:=?_) rfl (by kernel_rfl) (fun _ _ _ h=>h) (Or.inl ⟨by rfl,?_⟩) hHeld ?_;rotate_left
 · (intro w hSw;(try dsimp only at hSw);go_simp;(try with_reducible rfl))
 (try simp only[zqa,zqb,zqc,Act.put,zqd,zqe,zqf])
 refine zqt (i:=6) (v:=?_) rfl (by kernel_rfl) (fun _ _ _ h=>h) (Or.inl ⟨by rfl,?_⟩) hHeld ?_;rotate_left
 · (intro w hSw;(try dsimp only at hSw);go_simp;(try with_reducible rfl))
 (try simp only[zqa,zqb,zqc,Act.put,zqd,zqe,zqf])
 refine zqt (i:=7) (v:=?_) rfl (by kernel_rfl) (fun _ _ _ h=>h) (Or.inl ⟨by rfl,?_⟩) hHeld ?_;rotate_left
 · (intro w hSw;(try dsimp only at hSw);go_simp;(try with_reducible rfl))
 (try simp only[zqa,zqb,zqc,Act.put,zqd,zqe,zqf])
 refine wpAnyH_ready (rs:=[4,8]) (by kernel_rfl) (by simp) ?_;refine AllReadyH.cons (o:=_) rfl (fun K hK=>?_) (AllReadyH.cons (o:=_) rfl (fun K hK=>?_) AllReadyH.nil)
 focus (
  go_simp
  refine hK.out _ _ ?_ (fun hHeld=>?_)
  · (try dsimp only);exact hHeld
  clear hK K
  (try simp only[zqa,zqb,zqc,Act.put,zqd,zqe,zqf])
  refine wpAnyH_ready (rs:=[8]) (by kernel_rfl) (by simp) ?_
  refine AllReadyH.cons (o:=_) rfl (fun K hK=>?_) AllReadyH.nil
  go_simp
  refine hK.out _ _ ?_ (fun hHeld=>?_)
  · (try dsimp only);exact cell_alloc_keep hHeld
  clear hK K
  (try simp only[zqa,zqb,zqc,Act.put,zqd,zqe,zqf])
 )
 rotate_left
 focus (
  go_simp
  refine hK.out _ _ ?_ (fun hHeld=>?_)
  · (try dsimp only);exact cell_alloc_keep hHeld
  clear hK K
  (try simp only[zqa,zqb,zqc,Act.put,zqd,zqe,zqf])
  refine wpAnyH_ready (rs:=[4]) (by kernel_rfl) (by simp) ?_
  refine AllReadyH.cons (o:=_) rfl (fun K hK=>?_) AllReadyH.nil
  go_simp
  refine hK.out _ _ ?_ (fun hHeld=>?_)
  · (try dsimp only);exact hHeld
  clear hK K
  (try simp only[zqa,zqb,zqc,Act.put,zqd,zqe,zqf])
 )
 rotate_left
 all_goals (
  refine wpAnyH_ready (rs:=[9]) (by kernel_rfl) (by simp) ?_
  refine AllReadyH.cons (o:=_) rfl (fun K hK=>?_) AllReadyH.nil
  rw[if_pos (by rfl)]
  refine Ow.wp_append_to _ (.tmp 205) (.tmp 209) 33 rfl 0 3 ii _ 1 8 Tryz.underlying33 hii hz0 hz1 hz2 rfl (by decide) (.slice ao on oc) on (W.gone.map i64) rfl (by exact HOR.out.1) ⟨vd.heap.size,0,none⟩ 1 1 (by omega) [zi (r.reason:Int)] rfl rfl (fun j u hu=>Ow.new_row vd [zi (r.reason:Int)] _ vd.heap.size (by simp) j u hu) (by intro u hu;simp at hu;rcases hu with rfl<;>rfl) (by have:=HOR.out.2;unfold maxLen;omega) (by have:=HOR.out.2;omega) (Nat.zero_le _) ?_;intro v' w8 q1 q2 q3;obtain⟨r1,r1f,r3,B',r4,r5⟩:=HAD.out v' w8 q1 q2 q3;obtain⟨av8,cp8,rfl,_⟩:=Ow.own_form q1;have T8:=zH (zA r4 r5);clear q1 q2 q3 r4 r5
  refine hK.out _ _ ?_ (fun hHeld=>?_)
  · (try dsimp only);exact r3 _ _ (by exact GL.out) (by exact GX.out) S0
  clear hK K
  (try simp only[zqa,zqb,zqc,Act.put,zqd,zqe,zqf])
  refine zqt (i:=10) (v:=?_) rfl (by kernel_rfl) (fun _ _ _ h=>h) (Or.inl ⟨by rfl,?_⟩) hHeld ?_
  rotate_left
  · (intro w hSw;(try dsimp only at hSw);go_simp;(try with_reducible rfl))
  (try simp only[zqa,zqb,zqc,Act.put,zqd,zqe,zqf])
  refine zqt (i:=11) (v:=?_) rfl (by kernel_rfl) (fun _ _ _ h=>h) (Or.inl ⟨by rfl,?_⟩) hHeld ?_
  rotate_left
  · (intro w hSw;(try dsimp only at hSw);go_simp;(try with_reducible rfl))
  (try simp only[zqa,zqb,zqc,Act.put,zqd,zqe,zqf])
  refine wpAnyH_ready (rs:=[12]) (by kernel_rfl) (by simp) ?_
  refine AllReadyH.cons (o:=_) rfl (fun K hK=>?_) AllReadyH.nil
  go_simp
  refine hK.out _ _ ?_ (fun hHeld=>?_)
  · (try dsimp only);exact cell_set_keep (by exact GN.out.2) hHeld
  clear hK K
  (try simp only[zqa,zqb,zqc,Act.put,zqd,zqe,zqf])
  refine wpAnyH_done (by kernel_rfl) ?_ _
 )
 all_goals (
  clear r1 r1f r3 hHeld S0 HOR HAD GL GX
  generalize w8.setCell _ _=v10 at*
  obtain⟨hbw',hwk⟩:=T8.out
  obtain⟨y2,y2f⟩:=E2.out _ _ _ _ hbw' (by rfl) hwk
  have T10:=zH (F3.out _ _ _ _ hbw' hwk)
  have HBW:=zH hbw'
  have k3:=T10.out.obj List.mem_cons_self
  have z0:=obj_cell k3 0 rfl
  have z1:=obj_cell k3 1 rfl
  have z2:=obj_cell k3 2 rfl
  have z3:=obj_cell k3 3 rfl
  have z4:=obj_cell k3 4 rfl
  have z5:=obj_cell k3 5 rfl
  have z6:=obj_cell k3 6 rfl
  have z7:=obj_cell k3 7 rfl
  have z8:=obj_cell k3 8 rfl
  clear k3 GN E E2 F3 T8 hwk hbw'
  go_wp2
  go_ret
  exact⟨rfl,[_,_,_,_],_,HBW.out,T10.out⟩
 )
end Go.Proofs.YtbefcdjcefmicaaGreat.Em
