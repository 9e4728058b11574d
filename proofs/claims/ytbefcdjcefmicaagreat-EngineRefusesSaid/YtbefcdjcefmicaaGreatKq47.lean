import Derived.Test.YtbefcdjcefmicaaGreatKq46
namespace Go.Proofs.YtbefcdjcefmicaaGreat.Em
open Go.ChangeShapes Go.WideShapes Go.ChangeAt Go.RowKit En
set_option linter.unusedVariables false
set_option linter.unusedSimpArgs false
set_option maxRecDepth 100000
set_option maxHeartbeats 1600000
theorem wstep_done {B:WBook} {be:Nat} {w0 w:World} {ks:List Kept} {W:Wd} (h:WK B be w0 ks W w) {s:Nat} (hs:s<8) {σ1:St} {r:Res} (hbe:oneStep W.σ s=some (σ1,3,r)) (hbz:(W.σ.status s).busy=true) (hl1:σ1.looks≤W.σ.looks+1) (hl2:W.σ.looks≤σ1.looks) (hl3:W.σ.looks<1000000000000000) (hov:r.over=3) {k:Nat} (hid:W.ids.getD s 0=k+1) {p:Dl} (hp:W.deals[k]? =some p) (hdl:W.deals.length<100000) (hnz:σ1.status s={}):
 Calls Tryz.prog 22 #[.pointer (some ⟨B.bw,0,none⟩),zi (s:Int)] w fun e w'=>e=.returned (.bool true)∧∃ ks' B',B'.bw=B.bw∧WK B' be w0 (ks'++ks) {W with σ:=σ1,deals:=W.deals.set k {p with state:=3,end_:=(W.σ.status s).end_},ids:=W.ids.set s 0} w':=by
 obtain⟨lv,wt,a1,a2,a3,a4,en,a6,hst,hen⟩:∃ lv wt a1 a2 a3 a4,∃ en:Nat,∃ a6,statusCs (W.σ.status s)=#[.bool lv,.bool true,.bool wt,zi a1,zi a2,zi a3,zu a4,zu (en:Int),zi a6]∧en=(W.σ.status s).end_:=by
  refine⟨(W.σ.status s).live,(W.σ.status s).waits,((W.σ.status s).id:Int),((W.σ.status s).level:Int),((W.σ.status s).state:Int),((W.σ.status s).begin_:Int),(W.σ.status s).end_,((W.σ.status s).ops:Int),?_,rfl⟩;unfold statusCs;rw[hbz]
 obtain⟨lk,hlk⟩:∃ lk,lk=W.σ.looks:=⟨_,rfl⟩
 obtain⟨lk1,hlk1⟩:∃ lk1,lk1=σ1.looks:=⟨_,rfl⟩
 rw[←hlk] at hl1 hl2 hl3;rw[←hlk1] at hl1 hl2;have hst1:statusCs (σ1.status s)=#[.bool false,.bool false,.bool false,zi 0,zi 0,zi 0,zu 0,zu 0,zi 0]:=by rw[hnz];rfl
 rw[←hen];clear hnz hbz hen;have hl:=h.dl;have hln:=h.dlen;obtain⟨⟨pd,pv⟩,hk,hpd⟩:∃ q,B.ds[k]? =some q∧q.1=p:=by
  rw[←hl,List.getElem?_map] at hp
  cases hq:B.ds[k]? with
  |none=>rw[hq] at hp;cases hp
  |some q=>rw[hq] at hp;exact⟨q,rfl,Option.some.inj hp⟩
 obtain rfl:pd=p:=hpd;obtain⟨gd,cap,hvd,_,_,hgm,_⟩:=h.deal hk;have hkl:k<W.deals.length:=(List.getElem?_eq_some_iff.1 hp).1;obtain⟨n,hn⟩:∃ n,n=W.deals.length:=⟨_,rfl⟩
 have hvd0:=hvd;rw[hln,←hn] at hvd;have E:Hid (∀ B1 ks W1 w1,B1.bw=B.bw→B1.vd=B.vd→WK B1 be w0 ks W1 w1→w1.cell? ⟨B.bw,1,none⟩=some (.slice (some ⟨gd,0,none⟩) n cap)):=fun B1 ks W1 w1 e1 e2 q=>by
  have y1:=(q.wcell 1 rfl).1;rw[e1,e2,hvd] at y1;exact y1
 have E2:Hid (∀ B1 ks W1 w1,B1.bw=B.bw→W1.ids=W.ids→WK B1 be w0 ks W1 w1→w1.cell? ⟨B.bw,2+s,none⟩=some (zi ((k:Int)+1))∧w1.frozen? ⟨B.bw,2+s,none⟩=false):=fun B1 ks W1 w1 e1 e2 q=>by
  have y2:=q.wcell (2+s) (worldCs_id (W:=W1) q.i8 hs);rw[e1,e2,hid] at y2;exact y2
 have F1:Hid (∀ ks w1,WK B be w0 ks {W with σ:=σ1} w1→w1.cell? ⟨gd,k*6+2,none⟩=some (i64 pd.state)∧w1.frozen? ⟨gd,k*6+2,none⟩=false∧WK {B with ds:=B.ds.set k ({pd with state:=3},pv)} be w0 ks {W with σ:=σ1,deals:=W.deals.set k {pd with state:=3}} (w1.setCell ⟨gd,k*6+2,none⟩ (zi 3))):=fun ks w1 q=>by
  obtain⟨gd',cap',hv',_,_,_,hf⟩:=q.deal hk;rw[hvd0] at hv';simp only[Value.slice.injEq,Option.some.injEq,Addr.mk.injEq,and_true,true_and] at hv';obtain⟨rfl,rfl⟩:=hv';obtain⟨f1,f2⟩:=hf 2 (i64 pd.state) (by omega) rfl;exact⟨f1,f2,q.setDeal hk (j:=2) (by omega) (zi 3) {pd with state:=3} rfl rfl hvd0⟩
 have F2:Hid (∀ ks w1,WK {B with ds:=B.ds.set k ({pd with state:=3},pv)} be w0 ks {W with σ:=σ1,deals:=W.deals.set k {pd with state:=3}} w1→w1.cell? ⟨gd,k*6+4,none⟩=some (u64 pd.end_)∧w1.frozen? ⟨gd,k*6+4,none⟩=false∧WK {B with ds:=B.ds.set k ({pd with state:=3,end_:=en},pv)} be w0 ks {W with σ:=σ1,deals:=W.deals.set k {pd with state:=3,end_:=en}} (w1.setCell ⟨gd,k*6+4,none⟩ (zu (en:Int)))):=fun ks w1 q=>by
  have hk2:({B with ds:=B.ds.set k ({pd with state:=3},pv)}:WBook).ds[k]? =some ({pd with state:=3},pv):=by
   show (B.ds.set k _)[k]? =_;rw[List.getElem?_set_self (by rw[hln];exact hkl)]
  have hvd2:({B with ds:=B.ds.set k ({pd with state:=3},pv)}:WBook).vd=.slice (some ⟨gd,0,none⟩) (B.ds.set k ({pd with state:=3},pv)).length cap:=by rw[List.length_set];exact hvd0
  obtain⟨gd',cap',hv',_,_,_,hf⟩:=q.deal hk2;rw[hvd2] at hv';simp only[Value.slice.injEq,Option.some.injEq,Addr.mk.injEq,and_true,true_and] at hv';obtain⟨rfl,rfl⟩:=hv';obtain⟨f1,f2⟩:=hf 4 (u64 pd.end_) (by omega) rfl;have h9:=q.setDeal hk2 (j:=4) (by omega) (zu (en:Int)) {pd with state:=3,end_:=en} rfl rfl hvd2;simp only[List.set_set] at h9;exact⟨f1,f2,h9⟩
 have F3:Hid (∀ B1 ks W1 w1,B1.bw=B.bw→WK B1 be w0 ks W1 w1→WK B1 be w0 ks {W1 with ids:=W1.ids.set s 0} (w1.setCell ⟨B.bw,2+s,none⟩ (zi 0))):=fun B1 ks W1 w1 e1 q=>by
  have:=q.putId hs 0;rw[e1] at this;exact this
 have HNE:Hid (∀ ks w1 g g' ob ob',WK B be w0 ks {W with σ:=σ1} w1→Kept.obj g ob∈ks→Kept.obj g' ob'∈ks→gd≠B.bw∧gd≠g∧gd≠g'):=fun ks w1 g g' ob ob' q hm hm'=>by
  have hbw:B.M B.bw=some .eng:=by obtain⟨A,rfl,l,r',g0,t⟩:=q.ex;exact (r'.mem.all .eng).1
  have hno:=q.keptNo hm;have hno':=q.keptNo hm';refine⟨fun e=>?_,fun e=>?_,fun e=>?_⟩
  · rw[e,hbw] at hgm;cases hgm
  · rw[e,hno] at hgm;cases hgm
  · rw[e,hno'] at hgm;cases hgm
 have m2:((k:Int)<0)=False:=by simp
 have m3:decide ((k:Int)<0)=false:=by simp
 have m4:((n:Int)≤(k:Int))=False:=by simp;omega
 have m5:decide ((n:Int)≤(k:Int))=false:=by simp;omega
 have m6:(n≤k)=False:=by simp;omega
 have m7:(k:Int)<(n:Int):=by omega
 have m8:(0:Int)≤(k:Int):=by omega
 have m9:k<n:=by omega
 have kb:k<100000:=by omega
 have m1:IntKind.i64.wrap (k:Int)=(k:Int):=by rw[IntKind.wrap_i64];omega
 clear hid hp hdl hl hln hk hvd hvd0 hgm hkl hn;have N1:Hid (∀ ks w1,WK B be w0 ks W w1→Calls Tryz.prog 18 #[.pointer (some ⟨be,0,none⟩),zi (s:Int)] w1 fun e w'=>e=.returned (.agg #[.bool lv,.bool true,.bool wt,zi a1,zi a2,zi a3,zu a4,zu (en:Int),zi a6])∧WK B be w0 ks W w'):=fun ks w1 q=>by
  have hh:=status_wk q s hs;rw[hst] at hh;exact hh
 have N2:Hid (∀ ks w1,WK B be w0 ks W w1→Calls Tryz.prog 29 #[.pointer (some ⟨be,0,none⟩)] w1 fun e w'=>e=.returned (zi (lk:Int))∧w1=w'):=fun ks w1 q=>by
  have hh:=looks_wk q;rw[←hlk] at hh;exact hh
 have N3:Hid (∀ ks w1,WK B be w0 ks W w1→Calls Tryz.prog 19 #[.pointer (some ⟨be,0,none⟩),zi (s:Int)] w1 fun e w'=>∃ va vn vc,e=.returned (.tuple #[.agg #[zi 3,zi (r.e:Int),zi (r.value:Int),.slice va vn vc,zi 3,zi (r.reason:Int)],zi 0])∧WK B be w0 (.row 2 (.slice va vn vc) (pairCs r.pairs)::ks) {W with σ:=σ1} w'):=fun ks w1 q=>by
  refine (step_wk q hs hbe).mono ?_;rintro e w' ⟨va,vn,vc,rfl,hvn,q⟩;rw[hov];exact⟨va,vn,vc,rfl,q⟩
 have N4:Hid (∀ ks w1,WK B be w0 ks {W with σ:=σ1} w1→Calls Tryz.prog 29 #[.pointer (some ⟨be,0,none⟩)] w1 fun e w'=>e=.returned (zi (lk1:Int))∧w1=w'):=fun ks w1 q=>by
  have hh:=looks_wk q;rw[←hlk1] at hh;exact hh
 have N5:Hid (∀ ks w1,WK B be w0 ks {W with σ:=σ1} w1→Calls Tryz.prog 18 #[.pointer (some ⟨be,0,none⟩),zi (s:Int)] w1 fun e w'=>e=.returned (.agg #[.bool false,.bool false,.bool false,zi 0,zi 0,zi 0,zu 0,zu 0,zi 0])∧WK B be w0 ks {W with σ:=σ1} w'):=fun ks w1 q=>by
  have hh:=status_wk q s hs;rw[hst1] at hh;exact hh
 have C:Hid (∀ σ' ks w1,WK B be w0 ks {W with σ:=σ'} w1→w1.cell? ⟨B.bw,0,none⟩=some (.pointer (some ⟨be,0,none⟩))):=fun σ' ks w1 q=>(q.wcell 0 rfl).1
 have O1:Hid (∀ ks W1 w1 g,WK B be w0 (.obj g (.cells #[.bool lv,.bool true,.bool wt,zi a1,zi a2,zi a3,zu a4,zu (en:Int),zi a6] 38)::ks) W1 w1→w1.cell? ⟨g,1,none⟩=some (.bool true)∧w1.cell? ⟨g,7,none⟩=some (zu (en:Int))):=fun ks W1 w1 g q=>by
  have hb:=q.obj (List.mem_cons_self);exact⟨obj_cell hb 1 rfl,obj_cell hb 7 rfl⟩
 have b0:((s:Int)<0)=False:=by simp
 have b1:((7:Int)<(s:Int))=False:=by simp;omega
 have b2:(0:Int)≤(s:Int):=by omega
 have b3:(s:Int)<8:=by omega
 have b4:decide ((s:Int)<0)=false:=by simp
 have b5:decide ((7:Int)<(s:Int))=false:=by simp;omega
 have b6:(7<s)=False:=by simp;omega
 have n1:IntKind.i64.wrap ((lk:Int)+1)=(lk:Int)+1:=by rw[IntKind.wrap_i64];omega
 have c1:((lk:Int)+1<(lk1:Int))=False:=by simp;omega
 have c2:decide ((lk:Int)+1<(lk1:Int))=false:=by simp;omega
 have c3:((lk1:Int)<(lk:Int))=False:=by simp;omega
 have c4:decide ((lk1:Int)<(lk:Int))=false:=by simp;omega
 have c5:(lk1<lk)=False:=by simp;omega
 have m0:wrap64 (k:Int)=(k:Int):=by unfold wrap64;omega
 clear kb;have T0:=zH h;have x0:=C.out W.σ _ _ T0.out;clear hst hst1 hlk hlk1 hl1 hl2 hl3 hbe h hs hov;go_enter Tryz.func22,Tryz.ntmps22;go_upto_region 11 with (first|(go_at_call 18;refine (N1.out _ _ T0.out).mono ?_;clear T0;rintro e w1 ⟨rfl,q⟩;have x1:=C.out W.σ _ _ (q.alloc (.cells #[.bool lv,.bool true,.bool wt,zi a1,zi a2,zi a3,zu a4,zu (en:Int),zi a6] 38));have T1:=zH (q.alloc (.cells #[.bool lv,.bool true,.bool wt,zi a1,zi a2,zi a3,zu a4,zu (en:Int),zi a6] 38));clear q)|(go_at_call 29;refine (N2.out _ _ T1.out).mono ?_;rintro e w' ⟨rfl,rfl⟩;have T2:=T1;clear T1)|(go_at_call 19;refine (N3.out _ _ T2.out).mono ?_;clear T2;rintro e w3 ⟨va,vn,vc,rfl,q⟩;have q2:=q.alloc (.cells #[zi 3,zi (r.e:Int),zi (r.value:Int),.slice va vn vc,zi 3,zi (r.reason:Int)] 44);have x3:=C.out σ1 _ _ q2;obtain⟨y1,y2⟩:=O1.out _ _ _ _ q2.tail.tail;have T3:=zH q2;clear q q2)|(go_at_call 29;refine (N4.out _ _ T3.out).mono ?_;rintro e w' ⟨rfl,rfl⟩)|(go_at_call 18;refine (N5.out _ _ T3.out).mono ?_;clear T3;rintro e w6 ⟨rfl,q⟩;have q2:=q.alloc (.cells #[.bool false,.bool false,.bool false,zi 0,zi 0,zi 0,zu 0,zu 0,zi 0] 38);have T6:=zH q2;clear q q2))
 generalize hv6:w6.alloc _=v6 at*;generalize w1.heap.size=g1 at*;generalize w3.heap.size=g2 at*;generalize w6.heap.size=g3 at*;have x6:=C.out σ1 _ _ T6.out;have k3:=T6.out.obj List.mem_cons_self;have k2:=T6.out.tail.obj List.mem_cons_self;have k1:=T6.out.tail.tail.tail.obj List.mem_cons_self;have z30:=obj_cell k3 0 rfl;have z31:=obj_cell k3 1 rfl;have z32:=obj_cell k3 2 rfl;have z20:=obj_cell k2 0 rfl;have z21:=obj_cell k2 1 rfl;have z22:=obj_cell k2 2 rfl;have z23:=obj_cell k2 3 rfl;have z24:=obj_cell k2 4 rfl;have z25:=obj_cell k2 5 rfl;have z17:=obj_cell k1 7 rfl;clear k1 k2 k3 hv6 N1 N2 N3 N4 N5 C O1 b0 b1 b4 b5 b6 c1 c2 c3 c4 c5 n1;have y1:=E.out _ _ _ _ (by rfl) (by rfl) T6.out;obtain⟨y2,y2f⟩:=E2.out _ _ _ _ (by rfl) (by rfl) T6.out;go_upto_region 22 with fail
 have T7:=zH T6.out.drew;have GN:=zH (HNE.out _ _ g2 g1 _ _ T7.out (List.mem_cons_of_mem _ List.mem_cons_self) (List.mem_cons_of_mem _ (List.mem_cons_of_mem _ (List.mem_cons_of_mem _ List.mem_cons_self))));obtain⟨f1,f2,f3⟩:=F1.out _ _ T7.out;have T8:=zH f3;have S0:v6.drew.cell? ⟨B.bw,1,none⟩=some (.slice (some ⟨gd,0,none⟩) n cap)∧v6.drew.cell? ⟨g2,4,none⟩=some (zi 3):=⟨y1,z24⟩
 clear f3 HNE F1 T6 z20 z21 z22 z24 z25 z30 z31 z32 x6 m1 m0 y2 y2f y1 z23 z17;refine wp_region_held_drew (S:=fun w'=>w'.cell? ⟨B.bw,1,none⟩=some (.slice (some ⟨gd,0,none⟩) n cap)∧w'.cell? ⟨g2,4,none⟩=some (zi 3)) (by kernel_rfl) ?_ (fun hHeld=>?_)
 · (try dsimp only);exact S0
 generalize v6.drew=vd at*;refine zqt (i:=0) (v:=?_) rfl (by kernel_rfl) (fun _ _ _ h=>h) (Or.inl ⟨by rfl,?_⟩) hHeld ?_;rotate_left
 · (intro w hSw;(try dsimp only at hSw);go_simp;(try with_reducible rfl))
 (try simp only[zqa,zqb,zqc,Act.put,zqd,zqe,zqf])
 refine zqt (i:=1) (v:=?_) rfl (by kernel_rfl) (fun _ _ _ h=>h) (Or.inl ⟨by rfl,?_⟩) hHeld ?_;rotate_left
 · (intro w hSw;(try dsimp only at hSw);go_simp;(try with_reducible rfl))
 (try simp only[zqa,zqb,zqc,Act.put,zqd,zqe,zqf])
 refine zqt (i:=2) (v:=?_) rfl (by kernel_rfl) (fun _ _ _ h=>h) (Or.inl ⟨by rfl,?_⟩) hHeld ?_;rotate_left
 · (intro w hSw;(try dsimp only at hSw);go_simp;(try with_reducible rfl))
 (try simp only[zqa,zqb,zqc,Act.put,zqd,zqe,zqf])
 refine zqt (i:=3) (v:=?_) rfl (by kernel_rfl) (fun _ _ _ h=>h) (Or.inl ⟨by rfl,?_⟩) hHeld ?_;rotate_left
 · (intro w hSw;(try dsimp only at hSw);go_simp;(try with_reducible rfl))
 (try simp only[zqa,zqb,zqc,Act.put,zqd,zqe,zqf])
 refine zqt (i:=4) (v:=?_) rfl (by kernel_rfl) (fun _ _ _ h=>h) (Or.inl ⟨by rfl,?_⟩) hHeld ?_;rotate_left
 · (intro w hSw;(try dsimp only at hSw);go_simp;(try with_reducible rfl))
 (try simp only[zqa,zqb,zqc,Act.put,zqd,zqe,zqf])
 refine zqt (i:=5) (v:=?_) rfl (by kernel_rfl) (fun _ _ _ h=>h) (Or.inl ⟨by rfl,?_⟩) hHeld ?_;rotate_left
 · (intro w hSw;(try dsimp only at hSw);go_simp;(try with_reducible rfl))
 (try simp only[zqa,zqb,zqc,Act.put,zqd,zqe,zqf])
 refine zqt (i:=6) (v:=?_) rfl (by kernel_rfl) (fun _ _ _ h=>h) (Or.inl ⟨by rfl,?_⟩) hHeld ?_;rotate_left
 · (intro w hSw;(try dsimp only at hSw);go_simp;(try with_reducible rfl))
 (try simp only[zqa,zqb,zqc,Act.put,zqd,zqe,zqf])
 refine zqt (i:=7) (v:=?_) rfl (by kernel_rfl) (fun _ _ _ h=>h) (Or.inl ⟨by rfl,?_⟩) hHeld ?_;rotate_left
 · (intro w hSw;(try dsimp only at hSw);go_simp;(try with_reducible rfl))
 (try simp only[zqa,zqb,zqc,Act.put,zqd,zqe,zqf])
 refine zqt (i:=8) (v:=?_) rfl (by kernel_rfl) (fun _ _ _ h=>h) (Or.inl ⟨by rfl,?_⟩) hHeld ?_;rotate_left
 · (intro w hSw;(try dsimp only at hSw);go_simp;(try with_reducible rfl))
 (try simp only[zqa,zqb,zqc,Act.put,zqd,zqe,zqf])
 refine zqt (i:=9) (v:=?_) rfl (by kernel_rfl) (fun _ _ _ h=>h) (Or.inl ⟨by rfl,?_⟩) hHeld ?_;rotate_left
 · (intro w hSw;(try dsimp only at hSw);go_simp;(try with_reducible rfl))
 (try simp only[zqa,zqb,zqc,Act.put,zqd,zqe,zqf])
 refine wpAnyH_ready (rs:=[10]) (by kernel_rfl) (by simp) ?_;refine AllReadyH.cons (o:=_) rfl (fun K hK=>?_) AllReadyH.nil;go_simp;refine hK.out _ _ ?_ (fun hHeld=>?_)
 · (try dsimp only);exact⟨cell_set_keep (by exact GN.out.1) hHeld.1,cell_set_keep (by exact GN.out.2.1) hHeld.2⟩
 clear hK K
 (try simp only[zqa,zqb,zqc,Act.put,zqd,zqe,zqf])
 refine wpAnyH_done (by kernel_rfl) ?_ _;generalize vd.setCell _ _=v8 at*;have y1:=E.out _ _ _ _ (by rfl) (by rfl) T8.out;have z17:=obj_cell (T8.out.tail.tail.tail.obj List.mem_cons_self) 7 rfl;clear hHeld S0 f1 f2 T7;go_upto_region 23 with fail
 obtain⟨f1,f2,f3⟩:=F2.out _ _ T8.out.drew;have T9:=zH f3;have S0:v8.drew.cell? ⟨B.bw,1,none⟩=some (.slice (some ⟨gd,0,none⟩) n cap)∧v8.drew.cell? ⟨g1,7,none⟩=some (zu (en:Int)):=⟨y1,z17⟩
 clear f3 F2 y1 z17;refine wp_region_held_drew (S:=fun w'=>w'.cell? ⟨B.bw,1,none⟩=some (.slice (some ⟨gd,0,none⟩) n cap)∧w'.cell? ⟨g1,7,none⟩=some (zu (en:Int))) (by kernel_rfl) ?_ (fun hHeld=>?_)
 · (try dsimp only);exact S0
 generalize v8.drew=ve at*;refine zqt (i:=0) (v:=?_) rfl (by kernel_rfl) (fun _ _ _ h=>h) (Or.inl ⟨by rfl,?_⟩) hHeld ?_;rotate_left
 · (intro w hSw;(try dsimp only at hSw);go_simp;(try with_reducible rfl))
 (try simp only[zqa,zqb,zqc,Act.put,zqd,zqe,zqf])
 refine zqt (i:=1) (v:=?_) rfl (by kernel_rfl) (fun _ _ _ h=>h) (Or.inl ⟨by rfl,?_⟩) hHeld ?_;rotate_left
 · (intro w hSw;(try dsimp only at hSw);go_simp;(try with_reducible rfl))
 (try simp only[zqa,zqb,zqc,Act.put,zqd,zqe,zqf])
 refine zqt (i:=2) (v:=?_) rfl (by kernel_rfl) (fun _ _ _ h=>h) (Or.inl ⟨by rfl,?_⟩) hHeld ?_;rotate_left
 · (intro w hSw;(try dsimp only at hSw);go_simp;(try with_reducible rfl))
 (try simp only[zqa,zqb,zqc,Act.put,zqd,zqe,zqf])
 refine zqt (i:=3) (v:=?_) rfl (by kernel_rfl) (fun _ _ _ h=>h) (Or.inl ⟨by rfl,?_⟩) hHeld ?_;rotate_left
 · (intro w hSw;(try dsimp only at hSw);go_simp;(try with_reducible rfl))
 (try simp only[zqa,zqb,zqc,Act.put,zqd,zqe,zqf])
 refine zqt (i:=4) (v:=?_) rfl (by kernel_rfl) (fun _ _ _ h=>h) (Or.inl ⟨by rfl,?_⟩) hHeld ?_;rotate_left
 · (intro w hSw;(try dsimp only at hSw);go_simp;(try with_reducible rfl))
 (try simp only[zqa,zqb,zqc,Act.put,zqd,zqe,zqf])
 refine zqt (i:=5) (v:=?_) rfl (by kernel_rfl) (fun _ _ _ h=>h) (Or.inl ⟨by rfl,?_⟩) hHeld ?_;rotate_left
 · (intro w hSw;(try dsimp only at hSw);go_simp;(try with_reducible rfl))
 (try simp only[zqa,zqb,zqc,Act.put,zqd,zqe,zqf])
 refine zqt (i:=6) (v:=?_) rfl (by kernel_rfl) (fun _ _ _ h=>h) (Or.inl ⟨by rfl,?_⟩) hHeld ?_;rotate_left
 · (intro w hSw;(try dsimp only at hSw);go_simp;(try with_reducible rfl))
 (try simp only[zqa,zqb,zqc,Act.put,zqd,zqe,zqf])
 refine zqt (i:=7) (v:=?_) rfl (by kernel_rfl) (fun _ _ _ h=>h) (Or.inl ⟨by rfl,?_⟩) hHeld ?_;rotate_left
 · (intro w hSw;(try dsimp only at hSw);go_simp;(try with_reducible rfl))
 (try simp only[zqa,zqb,zqc,Act.put,zqd,zqe,zqf])
 refine zqt (i:=8) (v:=?_) rfl (by kernel_rfl) (fun _ _ _ h=>h) (Or.inl ⟨by rfl,?_⟩) hHeld ?_;rotate_left
 · (intro w hSw;(try dsimp only at hSw);go_simp;(try with_reducible rfl))
 (try simp only[zqa,zqb,zqc,Act.put,zqd,zqe,zqf])
 refine wpAnyH_ready (rs:=[9]) (by kernel_rfl) (by simp) ?_;refine AllReadyH.cons (o:=_) rfl (fun K hK=>?_) AllReadyH.nil;go_simp;refine hK.out _ _ ?_ (fun hHeld=>?_)
 · (try dsimp only);exact⟨cell_set_keep (by exact GN.out.1) hHeld.1,cell_set_keep (by exact GN.out.2.2) hHeld.2⟩
 clear hK K
 (try simp only[zqa,zqb,zqc,Act.put,zqd,zqe,zqf])
 refine wpAnyH_done (by kernel_rfl) ?_ _;generalize ve.setCell _ _=v9 at*;obtain⟨y2,y2f⟩:=E2.out _ _ _ _ (by rfl) (by rfl) T9.out;have T10:=zH (F3.out _ _ _ _ (by rfl) T9.out);have k2:=T9.out.tail.obj List.mem_cons_self;have z23:=obj_cell k2 4 rfl;have k3:=T10.out.obj List.mem_cons_self;have z0:=obj_cell k3 0 rfl;have z1:=obj_cell k3 1 rfl;have z2:=obj_cell k3 2 rfl;have z3:=obj_cell k3 3 rfl;have z4:=obj_cell k3 4 rfl;have z5:=obj_cell k3 5 rfl;have z6:=obj_cell k3 6 rfl;have z7:=obj_cell k3 7 rfl;have z8:=obj_cell k3 8 rfl;clear k2 k3 hHeld S0 f1 f2 T8 GN E E2 F3;go_wp2;go_ret;exact⟨rfl,[_,_,_,_],_,by rfl,T10.out⟩
def wStepOk (W:Wd) (s:Nat):Option Wd:=
 match oneStep W.σ s with
 |some (σ1,kd,r)=>
  if (W.σ.status s).busy=true∧σ1.looks≤W.σ.looks+1∧W.σ.looks≤σ1.looks∧W.σ.looks<1000000000000000 then
   if kd=3 then
    match W.ids.getD s 0 with
    |0=>none
    |k+1=>match W.deals[k]? with
     |none=>none
     |some p=>
      if r.over=0∧p.ops.length<100000∧W.deals.length<100000∧(σ1.status s).live=true∧(σ1.status s).busy=false then some {W with σ:=σ1,deals:=W.deals.set k {p with ops:=p.ops++[(W.ops.getD s default,r)]}}
      else if r.over=3∧W.deals.length<100000∧σ1.status s={} then some {W with σ:=σ1,deals:=W.deals.set k {p with state:=3,end_:=(W.σ.status s).end_},ids:=W.ids.set s 0}
      else none
   else if (kd=1∨kd=2)∧r={}∧(σ1.status s).busy=true∧(σ1.status s).waits=decide (kd=2) then some {W with σ:=σ1}
   else none
  else none
 |none=>none
theorem wstep_any {B:WBook} {be:Nat} {w0 w:World} {ks:List Kept} {W W':Wd} (h:WK B be w0 ks W w) {s:Nat} (hs:s<8) (hr:wStepOk W s=some W'):
 Calls Tryz.prog 22 #[.pointer (some ⟨B.bw,0,none⟩),zi (s:Int)] w fun e w'=>e=.returned (.bool true)∧∃ ks' B',B'.bw=B.bw∧WK B' be w0 (ks'++ks) W' w':=by
 unfold wStepOk at hr
 split at hr
 · rename_i σ1 kd r hst
   split at hr
   · rename_i hh
     obtain⟨h1,h2,h3,h4⟩:=hh
     split at hr
     · rename_i hkd
       subst hkd
       split at hr
       · cases hr
       · rename_i k hid
         split at hr
         · cases hr
         · rename_i p hp
           split at hr
           · rename_i hh
             obtain⟨e1,e2,e3,e4,e5⟩:=hh;obtain rfl:=Option.some.inj hr;exact wstep_op h hs hst h1 h2 h3 h4 e1 hid hp e2 e3 e4 e5
           · split at hr
             · rename_i hh
               obtain⟨e1,e2,e3⟩:=hh;obtain rfl:=Option.some.inj hr;exact wstep_done h hs hst h1 h2 h3 h4 e1 hid hp e2 e3
             · cases hr
     · split at hr
       · rename_i hh
         obtain⟨e1,e2,e3,e4⟩:=hh;obtain rfl:=Option.some.inj hr;subst e2;exact (wstep_ran h hs hst e1 h1 h2 h3 h4 e3 e4).mono fun e w' ⟨q1,ks',q2⟩=>⟨q1,ks',B,rfl,q2⟩
       · cases hr
   · cases hr
 · cases hr
def wEndN:Nat→Nat→Wd→Option Wd
 |0,_,_=>none
 |f+1,i,W=>
  if W.σ.live.length=0 then some W
  else if (W.σ.status (i % 8)).live=true then
   if (W.σ.status (i % 8)).busy=true then
    match wStepOk W (i % 8) with
    |some W'=>wEndN f (i+1) W'
    |none=>none
   else
    match wIssueOk W (i % 8) ⟨6,0,0,0⟩ with
    |some W'=>wEndN f (i+1) W'
    |none=>none
  else wEndN f (i+1) W
theorem wend_any {B:WBook} {be:Nat} {w0 w:World} {ks:List Kept} {W W':Wd} (h:WK B be w0 ks W w) (F:Nat) (hF:F≤400000) (hr:wEndN F 0 W=some W'):
 Calls Tryz.prog 23 #[.pointer (some ⟨B.bw,0,none⟩)] w fun e w'=>e=.returned (.bool true)∧∃ ks' B',B'.bw=B.bw∧WK B' be w0 (ks'++ks) W' w':=by
 have H0:=zH (zA h (zA hr hF));clear h hr hF;go_enter Tryz.func23,Tryz.ntmps23;go_wp2
 go_loopw [3] (fun i wr=>∃ (k f:Nat) (ks':List Kept) (B':WBook) (Wk:Wd),i=zi (k:Int)∧k+f≤400000∧B'.bw=B.bw∧WK B' be w0 (ks'++ks) Wk wr∧wEndN f k Wk=some W') (fun i _=>400000 - (intOf i).toNat)
 case atStart=>exact⟨0,F,[],B,W,rfl,by have:=H0.out.2.2;omega,rfl,H0.out.1,H0.out.2.1⟩
 case round=>
  obtain⟨k,f,ks',B',Wk,rfl,hkf,hbw,hw,hrun⟩:=hrel
  cases f with
  |zero=>cases hrun
  |succ f=>
  unfold wEndN at hrun;have b0:(k:Int)<400000:=by omega
  have b1:((k:Int)<400000)=True:=by simp;omega
  have n1:IntKind.i64.wrap ((k:Int)+1)=(k:Int)+1:=by rw[IntKind.wrap_i64];omega
  obtain⟨ll,hll⟩:∃ ll,ll=Wk.σ.live.length:=⟨_,rfl⟩
  have N1:Hid (Calls Tryz.prog 30 #[.pointer (some ⟨be,0,none⟩)] wr fun e w'=>∃ av cap,e=.returned (.slice av ll cap)∧WK B' be w0 (ks'++ks) Wk w'):=by rw[hll];exact live_wk hw
  have x0:wr.cell? ⟨B.bw,0,none⟩=some (.pointer (some ⟨be,0,none⟩)):=by rw[←hbw];exact (hw.wcell 0 rfl).1
  have C:Hid (∀ w1,WK B' be w0 (ks'++ks) Wk w1→w1.cell? ⟨B.bw,0,none⟩=some (.pointer (some ⟨be,0,none⟩))):=fun w1 q=>by rw[←hbw];exact (q.wcell 0 rfl).1
  by_cases hl0:Wk.σ.live.length=0
  · rw[if_pos hl0] at hrun
    obtain rfl:=Option.some.inj hrun;obtain rfl:ll=0:=hll.trans hl0;have HB:=zH hbw;clear hl0 hll hw hbw hkf hrun;go_wp2_with (go_at_call 30;refine N1.out.mono ?_;rintro e w1 ⟨av,cap,rfl,q⟩;have T1:=zH q;clear q);go_ret;exact⟨rfl,ks',B',HB.out,T1.out⟩
  · rw[if_neg hl0] at hrun
    have l1:((ll:Int)==0)=false:=by simp;omega
    have l2:((ll:Int)=0)=False:=by simp;omega
    have l3:(ll=0)=False:=by simp;omega
    obtain⟨s,hs⟩:∃ s,s=k % 8:=⟨_,rfl⟩
    have hs8:s<8:=by omega
    have t1:(k:Int).tmod 8=(s:Int):=by rw[hs];exact (Int.ofNat_tmod k 8).symm
    rw[←hs] at hrun;obtain⟨lv,bz,wt,a1,a2,a3,a4,a5,a6,hst,hlv,hbz⟩:∃ lv bz wt a1 a2 a3 a4 a5 a6,statusCs (Wk.σ.status s)=#[.bool lv,.bool bz,.bool wt,zi a1,zi a2,zi a3,zu a4,zu a5,zi a6]∧lv=(Wk.σ.status s).live∧bz=(Wk.σ.status s).busy:=⟨_,_,_,_,_,_,_,_,_,rfl,rfl,rfl⟩
    have N2:Hid (∀ w1,WK B' be w0 (ks'++ks) Wk w1→Calls Tryz.prog 18 #[.pointer (some ⟨be,0,none⟩),zi (s:Int)] w1 fun e w'=>e=.returned (.agg #[.bool lv,.bool bz,.bool wt,zi a1,zi a2,zi a3,zu a4,zu a5,zi a6])∧WK B' be w0 (ks'++ks) Wk w'):=fun w1 q=>by
     have hh:=status_wk q s hs8;rw[hst] at hh;exact hh
    have O1:Hid (∀ w1 g,WK B' be w0 (.obj g (.cells #[.bool lv,.bool bz,.bool wt,zi a1,zi a2,zi a3,zu a4,zu a5,zi a6] 38)::(ks'++ks)) Wk w1→w1.cell? ⟨g,0,none⟩=some (.bool lv)∧w1.cell? ⟨g,1,none⟩=some (.bool bz)):=fun w1 g q=>by
     have hb:=q.obj (List.mem_cons_self);exact⟨obj_cell hb 0 rfl,obj_cell hb 1 rfl⟩
    rw[←hlv,←hbz] at hrun;have HB:=zH (zA hbw hkf);clear hl0 hll hst hlv hbz hs
    cases lv with
    |false=>
     rw[if_neg (by decide)] at hrun;have HR:=zH hrun;clear hrun hw hbw hkf hs8;go_wp2_with (first|(go_at_call 30;refine N1.out.mono ?_;rintro e w1 ⟨av,cap,rfl,q⟩;have x1:=C.out _ q;have T1:=zH q;clear q)|(go_at_call 18;refine (N2.out _ T1.out).mono ?_;rintro e w2 ⟨rfl,q⟩;have q2:=q.alloc (.cells #[.bool false,.bool bz,.bool wt,zi a1,zi a2,zi a3,zu a4,zu a5,zi a6] 38);obtain⟨y0,y1⟩:=O1.out _ _ q2;have T2:=zH q2;clear q q2 T1))
     go_roundw
     case rel=>exact⟨k+1,f,_::ks',B',Wk,rfl,by have:=HB.out.2;omega,HB.out.1,T2.out,HR.out⟩
     case measure=>simp[intOf];omega
    |true=>
     rw[if_pos rfl] at hrun
     cases bz with
     |false=>
      rw[if_neg (by decide)] at hrun
      split at hrun
      · rename_i W2 hi
        have N3:Hid (∀ w1 ks1,WK B' be w0 ks1 Wk w1→Calls Tryz.prog 21 #[.pointer (some ⟨B.bw,0,none⟩),zi (s:Int),.agg #[zi 6,zi 0,zi 0,zi 0]] w1 fun e w'=>e=.returned (.bool true)∧WK B' be w0 ks1 W2 w'):=fun w1 ks1 q=>by
         rw[←hbw];exact wissue_any q hs8 ⟨6,0,0,0⟩ hi
        have HR:=zH hrun;clear hrun hw hbw hkf hs8 hi;go_wp2_with (first|(go_at_call 30;refine N1.out.mono ?_;rintro e w1 ⟨av,cap,rfl,q⟩;have x1:=C.out _ q;have T1:=zH q;clear q)|(go_at_call 18;refine (N2.out _ T1.out).mono ?_;rintro e w2 ⟨rfl,q⟩;have q2:=q.alloc (.cells #[.bool true,.bool false,.bool wt,zi a1,zi a2,zi a3,zu a4,zu a5,zi a6] 38);obtain⟨y0,y1⟩:=O1.out _ _ q2;have T2:=zH q2;clear q q2 T1)|(go_at_call 21;refine (N3.out _ _ T2.out).mono ?_;rintro e w3 ⟨rfl,q⟩;have T3:=zH q;clear q T2))
        go_roundw
        case rel=>exact⟨k+1,f,_::ks',B',W2,rfl,by have:=HB.out.2;omega,HB.out.1,T3.out,HR.out⟩
        case measure=>simp[intOf];omega
      · cases hrun
     |true=>
      rw[if_pos rfl] at hrun
      split at hrun
      · rename_i W2 hi
        have N4:Hid (∀ w1 ks1,WK B' be w0 ks1 Wk w1→Calls Tryz.prog 22 #[.pointer (some ⟨B.bw,0,none⟩),zi (s:Int)] w1 fun e w'=>e=.returned (.bool true)∧∃ ks2 B2,B2.bw=B.bw∧WK B2 be w0 (ks2++ks1) W2 w'):=fun w1 ks1 q=>by
         rw[←hbw];exact wstep_any q hs8 hi
        have HR:=zH hrun;clear hrun hw hbw hkf hs8 hi;go_wp2_with (first|(go_at_call 30;refine N1.out.mono ?_;rintro e w1 ⟨av,cap,rfl,q⟩;have x1:=C.out _ q;have T1:=zH q;clear q)|(go_at_call 18;refine (N2.out _ T1.out).mono ?_;rintro e w2 ⟨rfl,q⟩;have q2:=q.alloc (.cells #[.bool true,.bool true,.bool wt,zi a1,zi a2,zi a3,zu a4,zu a5,zi a6] 38);obtain⟨y0,y1⟩:=O1.out _ _ q2;have T2:=zH q2;clear q q2 T1)|(go_at_call 22;refine (N4.out _ _ T2.out).mono ?_;rintro e w3 ⟨rfl,ks2,B2,q0,q⟩;have T3:=zH (zA q0 q);clear q0 q T2))
        go_roundw
        case rel=>exact⟨k+1,f,ks2++(_::ks'),B2,W2,rfl,by have:=HB.out.2;omega,T3.out.1,by have:=T3.out.2;rw[List.append_assoc];exact this,HR.out⟩
        case measure=>simp[intOf];omega
      · cases hrun
def awRun:Bool:=thn (wBeginOk (wNew 8 100) 0 3) fun W1=>thn (wIssueOk W1 0 ⟨2,5,0,7⟩) fun W2=>thn (wEndN 1000 0 W2) fun W3=>decide (W3.deals.length=1)&&(thn (W3.deals[0]?) fun p=>decide (p.state=3)&&(okPairs W3.σ&&decide (W3.σ.pairs=[(5,7)])))
theorem awRun_true:awRun=true:=by decide +kernel
theorem awRun_ok:∃ W1 W2 W3 p,wBeginOk (wNew 8 100) 0 3=some W1∧wIssueOk W1 0 ⟨2,5,0,7⟩=some W2∧wEndN 1000 0 W2=some W3∧W3.deals.length=1∧W3.deals[0]? =some p∧p.state=3∧okPairs W3.σ=true∧W3.σ.pairs=[(5,7)]:=by
 have h:=awRun_true;unfold awRun at h;obtain⟨W1,h1,h⟩:=thn_ok h;obtain⟨W2,h2,h⟩:=thn_ok h;obtain⟨W3,h3,h⟩:=thn_ok h;obtain⟨h4,h⟩:=and_ok h;obtain⟨p,h5,h⟩:=thn_ok h;obtain⟨h6,h⟩:=and_ok h;obtain⟨h7,h8⟩:=and_ok h;exact⟨W1,W2,W3,p,h1,h2,h3,of_decide_eq_true h4,h5,of_decide_eq_true h6,h7,of_decide_eq_true h8⟩
theorem awake23 (w:World):Calls Tryz.prog 20 #[] w fun e w'=>e=.returned (.bool true)∧Below w.heap.size w w':=by
 obtain⟨W1,W2,W3,p,h1,h2,h3,h4,h5,h6,h7,h8⟩:=awRun_ok;have HN:Hid (Calls Tryz.prog 15 #[zi 8,zu 100] w fun e w'=>∃ B be,e=.returned (.pointer (some ⟨B.bw,0,none⟩))∧WK B be w [] (wNew 8 100) w'):=wnew_any 8 100 (by omega) (by omega) (by omega) (by omega) w;have HBg:Hid (∀ B be w1,WK B be w [] (wNew 8 100) w1→Calls Tryz.prog 16 #[.pointer (some ⟨B.bw,0,none⟩),zi 0,zi 3] w1 fun e w'=>e=.returned (.bool true)∧∃ B',B'.bw=B.bw∧WK B' be w [] W1 w'):=fun B be w1 q=>wbegin_any q (s:=0) (level:=3) (by omega) h1
 have HIs:Hid (∀ B be w1 b,B.bw=b→WK B be w [] W1 w1→Calls Tryz.prog 21 #[.pointer (some ⟨b,0,none⟩),zi 0,.agg #[zi 2,zi 5,zi 0,zi 7]] w1 fun e w'=>e=.returned (.bool true)∧WK B be w [] W2 w'):=fun B be w1 b e q=>by subst e;exact wissue_any q (s:=0) (by omega) ⟨2,5,0,7⟩ h2
 have HEn:Hid (∀ B be w1 b,B.bw=b→WK B be w [] W2 w1→Calls Tryz.prog 23 #[.pointer (some ⟨b,0,none⟩)] w1 fun e w'=>e=.returned (.bool true)∧∃ B' gd cap,B'.bw=b∧WK B' be w [] W3 w'∧w'.cell? ⟨b,0,none⟩=some (.pointer (some ⟨be,0,none⟩))∧w'.cell? ⟨b,1,none⟩=some (.slice (some ⟨gd,0,none⟩) 1 cap)∧w'.cell? ⟨gd,2,none⟩=some (zi 3)):=fun B be w1 b e q=>by
  subst e;refine (wend_any q 1000 (by omega) h3).mono ?_;rintro e w' ⟨rfl,ks',B',hb,q⟩;have y1:=(q.wcell 1 rfl).1;have hk:∃ pv,B'.ds[0]? =some (p,pv):=by
   have hl:=q.dl;rw[←hl,List.getElem?_map] at h5
   cases hq:B'.ds[0]? with
   |none=>rw[hq] at h5;cases h5
   |some x=>
    rw[hq] at h5;obtain rfl:=Option.some.inj h5;exact⟨x.2,rfl⟩
  obtain⟨pv,hk⟩:=hk;obtain⟨gd,cap,hv,_,_,_,hf⟩:=q.deal hk;rw[hv,q.dlen,h4,hb] at y1;have y2:=(hf 2 (i64 p.state) (by omega) rfl).1;rw[h6] at y2;have y0:=(q.wcell 0 rfl).1;rw[hb] at y0;exact⟨rfl,B',gd,cap,hb,q.drop,y0,y1,y2⟩
 have HPr:Hid (∀ B be w1,WK B be w [] W3 w1→Calls Tryz.prog 32 #[.pointer (some ⟨be,0,none⟩)] w1 fun e w'=>∃ av cap,e=.returned (.slice av 1 cap)∧Ow.Row w' 0 2 (.slice av 1 cap) (pairCs [(5,7)])∧WK B be w [] W3 w'):=fun B be w1 q=>by
  have hh:=pairs_wk q h7;rw[h8] at hh;exact hh
 have HSP:Hid (∀ av cap w1,Ow.Row w1 0 2 (.slice av 1 cap) (pairCs [(5,7)])→Calls Tryz.prog 46 #[.slice av 1 cap,.slice (some ⟨w1.heap.size,0,none⟩) 1 1] (w1.alloc (.cells #[zi 5,zi 7] 140)) fun e w'=>e=.returned (.bool true)∧Below (w1.alloc (.cells #[zi 5,zi 7] 140)).heap.size (w1.alloc (.cells #[zi 5,zi 7] 140)) w'):=fun av cap w1 q=>by
  refine same_pairs _ _ [(5,7)] 0 0 _ (Row.alloc' q _) ?_;exact row_of_obj (xs:=pairCs [(5,7)]) 1 2 (heap_alloc_new w1 _) rfl (by omega)
 clear h1 h2 h3 h4 h5 h6 h7 h8;go_enter Tryz.func20,Tryz.ntmps20;go_wp2_with (first|(go_at_call 15;refine HN.out.mono ?_;rintro e w1 ⟨B,be,rfl,q⟩;have T1:=zH q;clear q)|(go_at_call 16;refine (HBg.out _ _ _ T1.out).mono ?_;rintro e w2 ⟨rfl,B1,hb,q⟩;have T2:=zH (zA hb q);clear q hb T1)|(go_at_call 21;refine (HIs.out _ _ _ _ T2.out.1 T2.out.2).mono ?_;rintro e w3 ⟨rfl,q⟩;have T3:=zH (zA T2.out.1 q);clear q T2)|(go_at_call 23;refine (HEn.out _ _ _ _ T3.out.1 T3.out.2).mono ?_;rintro e w4 ⟨rfl,B2,gd,cap,_,q,x0,x1,x2⟩;have T4:=zH q;clear q T3)|(go_at_call 32;refine (HPr.out _ _ _ T4.out).mono ?_;rintro e w5 ⟨av,c5,rfl,q1,q⟩;have T5:=zH q;have HR:=zH q1;clear q q1 T4)|(go_at_call 46;refine (HSP.out _ _ _ HR.out).mono ?_;rintro e w6 ⟨rfl,q⟩;have T6:=zH ((T5.out.alloc _).below q);clear q));go_ret;exact⟨rfl,T6.out.toBelow⟩
theorem issue_many {A:Book} {σ:St} {w:World} (hL:Live A σ w) (s:Nat) (hs:s<8) (t:Txn) (ht:σ.txns.getD s none=some t) (o:En.Op) (ho:opOk o=true) (he:opEnds o=false) (hn:σ.calls.getD s none=none) (hop:12≤t.ops):
 Calls Tryz.prog 17 #[.pointer (some ⟨A.be,0,none⟩),zi (s:Int),.agg #[zi (o.kind:Int),zi (o.key:Int),zi (o.hi:Int),zi (o.value:Int)]] w fun e w'=>e=.returned (zi 65)∧Below w.heap.size w w':=by
 obtain⟨r0,g0,f0⟩:=allocs1 hL.rep #[zi (o.kind:Int),zi (o.key:Int),zi (o.hi:Int),zi (o.value:Int)] 31;have hsok:=zH (sessionOk s hs);have hok:=zH (opOk_true o ho);have hen:=zH (ends_op o);rw[he] at hen;have b1:(s:Int)<8:=by omega
 have b0:(0:Int)≤(s:Int):=by omega
 have HW:Hid (∀ w',Below (w.alloc (.cells #[zi (o.kind:Int),zi (o.key:Int),zi (o.hi:Int),zi (o.value:Int)] 31)).heap.size (w.alloc (.cells #[zi (o.kind:Int),zi (o.key:Int),zi (o.hi:Int),zi (o.value:Int)] 31)) w'→Below w.heap.size w w'∧(w'.cell? ⟨w.heap.size,0,none⟩=some (zi (o.kind:Int))∧w'.cell? ⟨w.heap.size,1,none⟩=some (zi (o.key:Int))∧w'.cell? ⟨w.heap.size,2,none⟩=some (zi (o.hi:Int))∧w'.cell? ⟨w.heap.size,3,none⟩=some (zi (o.value:Int)))∧w'.cell? ⟨A.be,5+s,none⟩=some (.pointer (some ⟨A.bt s,0,none⟩))∧w'.cell? ⟨A.be,13+s,none⟩=some (.pointer none)∧w'.cell? ⟨A.bt s,5,none⟩=some (zi (t.ops:Int))):=by
  intro w' hb;have r:=r0.below hb;have f:=f0.grow (Grow.below (L:=A.L) hb);have h:=r.eng (5+s) (engCs_txn A σ hs);have h2:=r.eng (13+s) (engCs_call A σ hs);have e:A.tp σ s=.pointer (some ⟨A.bt s,0,none⟩):=by unfold Book.tp;rw[ht]
  rw[e] at h;rw[hL.idle s hs hn] at h2;exact⟨((Below.refl _ _).alloc (Nat.le_refl _) _).trans (hb.mono (by simp)),⟨f.cell 0 rfl,f.cell 1 rfl,f.cell 2 rfl,f.cell 3 rfl⟩,h,h2,r.txn ht 5 rfl⟩
 obtain⟨hb0,⟨o0,o1,o2,o3⟩,v1,v2,v3⟩:=HW.out _ (Below.refl _ _);have HB0:=zH hb0;have d1:decide ((12:Int)≤(t.ops:Int))=true:=by simp;omega
 have d2:((12:Int)≤(t.ops:Int))=True:=by simp;omega
 have d3:(12≤t.ops)=True:=by simp;omega
 clear hL r0 g0 f0 hs ho he hn hop ht hb0;go_enter Tryz.func17,Tryz.ntmps17;go_wp2_with (first|(go_at_call 48;refine (hsok.out _).mono ?_;rintro e w' ⟨rfl,rfl⟩)|(go_at_call 49;refine (hok.out _).mono ?_;rintro e w1 ⟨rfl,hb⟩;obtain⟨_,⟨y0,y1,y2,y3⟩,x1,x2,x3⟩:=HW.out w1 hb;have H1:=zH hb;clear hb)|(go_at_call 50;refine (hen.out _).mono ?_;rintro e w2 ⟨rfl,hb2⟩;have HB2:=zH (HW.out w2 (H1.out.trans (hb2.mono H1.out.size))).1;clear hb2));go_ret;exact⟨rfl,HB2.out⟩
end Go.Proofs.YtbefcdjcefmicaaGreat.Em
