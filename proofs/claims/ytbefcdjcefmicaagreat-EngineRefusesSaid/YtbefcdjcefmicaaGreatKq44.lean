import Derived.Test.YtbefcdjcefmicaaGreatKq43
namespace Go.Proofs.YtbefcdjcefmicaaGreat.Em
open Go.ChangeShapes Go.WideShapes Go.ChangeAt Go.RowKit En
set_option linter.unusedVariables false
set_option linter.unusedSimpArgs false
set_option maxRecDepth 100000
set_option maxHeartbeats 1600000
theorem infoDl:(Tryz.prog.info? 54).map (fun i=>(i.zero,i.size,i.bytes))=some (some (.agg #[zi 0,zi 0,zi 0,zu 0,zu 0,.slice none 0 0]),6,64):=by kernel_rfl
theorem dealsCs_one (l:List (Dl×Value)) (d:Dl) (v:Value):dealsCs (l++[(d,v)])=dealsCs l++dealCs d v:=by simp[dealsCs]
section
variable {B:WBook} {be:Nat} {w0 w w':World} {ks:List Kept} {W:Wd}
theorem WK.ge (h:WK B be w0 ks W w) {b:Nat} {r:Role} (hb:B.M b=some r):w0.heap.size≤b:=by
 obtain⟨A,rfl,l,r',g,t⟩:=h.ex
 rcases Nat.lt_or_ge b w0.heap.size with h1|h1
 · have:=r'.tie b r hb
   rw[g.lab _ h1] at this;cases this
 · exact h1
theorem WK.addDeal {w1:World} {v':Value} (h:WK B be w0 ks W w) (d:Dl) (hd:d.ops=[]) (hb:Below w.heap.size w w1)
 (ho:w'.ownsRow 0 54 6 v' (B.ds.length+1) (dealsCs B.ds++dealCs d (.slice none 0 0))) (hg:w1.grownBy w' B.vd.ownBlock) (h3:v'.ownBlock=B.vd.ownBlock∨∀ g,v'.ownBlock=some g→w1.heap.size≤g):
 ∃ B',B'.bw=B.bw∧w'.cell? ⟨B.bw,1,none⟩=some B.vd∧w'.frozen? ⟨B.bw,1,none⟩=false∧WK B' be w0 ks {W with deals:=W.deals++[d]} (w'.setCell ⟨B.bw,1,none⟩ v'):=by
 have h1:=h.below hb;have hge:∀ b r,B.M b=some r→w0.heap.size≤b:=fun b r=>h1.ge
 obtain⟨A,rfl,l,r,g,t⟩:=h1.ex;have htm:TmpRow A.L B.vd:=fun b hb=>r.tie b _ ((r.mem.all .tale).2 b hb)
 obtain⟨L',hrow,htm'⟩:=append_tmp l htm ho hg h3;have hgr:=r.mem.grown .tale (v:=B.vd) (v':=v') (n':=B.ds.length+1) rfl hg ho h3;obtain⟨hm,hgm⟩:=hgr;have hc1:=hm.cell (r:=.eng) (b:=B.bw) (cs:=worldCs A.be B W) (T:=35) (updE_other _ _ (by simp)) 1 (v:=B.vd) rfl;have hc2:=hm.frozen (r:=.eng) (b:=B.bw) (cs:=worldCs A.be B W) (T:=35) (updE_other _ _ (by simp)) 1;have hp:=hm.put .eng (b:=B.bw) (cs:=worldCs A.be B W) (T:=35) (updE_other _ _ (by simp)) 1 v';have hbw:B.M B.bw=some .eng:=(r.mem.all .eng).1;have hlt:B.bw<w1.heap.size:=r.lt hbw;have hlb:L' B.bw=some .tmp:=(hrow.lab _ hlt).trans (r.tie _ _ hbw);have hbut:=But.setCell w' ⟨B.bw,1,none⟩ v';have hsoft:=hbut.soft hlb;refine⟨{B with M:=labV B.M v' .tale,vd:=v',ds:=B.ds++[(d,.slice none 0 0)],cs:=fun k=>if k=B.ds.length then [] else B.cs k},rfl,hc1,hc2,{A with L:=L'},rfl,?_,⟨fun b q hbq=>?_,⟨fun q=>?_,hp.fresh⟩,fun k p hk=>?_,?_,r.i8,r.o8⟩,?_,Kepts.soft hsoft (Kepts.soft hrow.soft t)⟩
 · exact (l.rown hrow).but hlb hbut
 · replace hbq:labV B.M v' .tale b=some q:=hbq
   unfold labV at hbq
   split at hbq
   · rename_i hv
     exact htm' b hv
   · exact (hrow.lab b (r.lt hbq)).trans (r.tie b q hbq)
 · have hq:=hp.all q
   cases q with
   |eng=>exact hq
   |tale=>
    rw[updE_other _ _ (by simp),updE_same] at hq;show Entry.Holds _ _ _ (.own v' _ 6 (B.ds++[(d,_)]).length (dealsCs (B.ds++[(d,_)])));rw[dealsCs_one,List.length_append];exact hq
   |free=>rw[updE_other _ _ (by simp),updE_other _ _ (by simp)] at hq;exact hq
   |reads k=>
    rw[updE_other _ _ (by simp),updE_other _ _ (by simp)] at hq
    by_cases hk:k=B.ds.length
    · subst hk
      simp only[wmem];rw[List.getElem?_append_right (Nat.le_refl _),Nat.sub_self];show Entry.Holds _ _ _ (.own (.slice none 0 0) _ 9 d.ops.length _);rw[hd];simp only[if_true,List.length_nil];exact⟨World.ownsRow_nil _ _ _ _,fun g hg=>by cases hg⟩
    · simp only[wmem] at hq ⊢
      rw[if_neg hk]
      rcases Nat.lt_or_ge k B.ds.length with h4|h4
      · rw[List.getElem?_append_left h4];exact hq
      · rw[List.getElem?_eq_none (by simp;omega)];trivial
   |_=>trivial
 · by_cases hkl:k=B.ds.length
   · subst hkl
     rw[List.getElem?_append_right (Nat.le_refl _),Nat.sub_self] at hk;obtain rfl:=Option.some.inj hk;rw[hd];show Cls _ _ [] (if B.ds.length=B.ds.length then [] else _);rw[if_pos rfl];rfl
   · have h4:k<B.ds.length:=by
      have:=(List.getElem?_eq_some_iff.1 hk).1;simp at this;omega
     rw[List.getElem?_append_left h4] at hk;show Cls L' _ _ (if k=B.ds.length then [] else B.cs k);rw[if_neg hkl];exact ((r.cls k p hk).soft hrow.soft).soft hsoft
 · rw[List.map_append,r.dl];rfl
 · exact (g.rown hrow (fun b hb=>hge b _ ((r.mem.all .tale).2 b hb))).but (hge _ _ hbw) hbut
end
def wBeginOk (W:Wd) (s level:Nat):Option Wd:=
 match beginOk W.σ s level with
 |some (σ1,id)=>
  if id=W.deals.length+1∧W.ids.getD s 0=0∧σ1.now=W.σ.now+1∧W.σ.word 0<18446744073709551616∧σ1.word 0<18446744073709551616∧W.deals.length<100000 then
   some {W with σ:=σ1,ids:=W.ids.set s id,deals:=W.deals++[⟨id,level,1,W.σ.now+1,0,[]⟩]}
  else none
 |none=>none
theorem wbegin_any {B:WBook} {be:Nat} {w0 w:World} {ks:List Kept} {W W':Wd} (h:WK B be w0 ks W w) {s level:Nat} (hs:s<8) (hr:wBeginOk W s level=some W'):
 Calls Tryz.prog 16 #[.pointer (some ⟨B.bw,0,none⟩),zi (s:Int),zi (level:Int)] w fun e w'=>e=.returned (.bool true)∧∃ B',B'.bw=B.bw∧WK B' be w0 ks W' w':=by
 obtain⟨ii,hii,hz0,hz1,hz2⟩:=info_parts infoDl;unfold wBeginOk at hr
 split at hr
 · rename_i σ1 id hbe
   split at hr
   · rename_i hh
     obtain⟨h1,h2,h3,h4,h5,h6⟩:=hh;obtain rfl:=Option.some.inj hr;have hdl:=h.dlen;obtain⟨va,vc,hvd,hc1,hc2,_⟩:=Ow.own_form h.deals;rw[hdl] at hvd;have i8:=h.i8;obtain⟨n,hn⟩:∃ n,n=W.deals.length:=⟨_,rfl⟩
     obtain⟨nw,hnw⟩:∃ nw,nw=W.σ.now:=⟨_,rfl⟩
     have hnwb:nw<281474976710656:=by rw[hnw];unfold St.now timeOf;omega
     have N1:=zH (now_wk h h4);have N2:Hid (∀ w1,WK B be w0 ks W w1→Calls Tryz.prog 41 #[.pointer (some ⟨be,0,none⟩),zi (s:Int),zi (level:Int)] w1 fun e w'=>e=.returned (.tuple #[zi (id:Int),zi 0])∧WK B be w0 ks {W with σ:=σ1} w'):=fun w1 q=>begin_wk q hs hbe
     have N3:Hid (∀ w1,WK B be w0 ks {W with σ:=σ1} w1→Calls Tryz.prog 27 #[.pointer (some ⟨be,0,none⟩)] w1 fun e w'=>e=.returned (zu ((nw:Int)+1))∧WK B be w0 ks {W with σ:=σ1} w'):=fun w1 q=>by
      have hh:=now_wk q h5;rw[show ({W with σ:=σ1}:Wd).σ.now=nw+1 by rw[hnw];exact h3] at hh;exact hh
     rw[←hnw] at N1;have C:Hid (∀ σ' w1,WK B be w0 ks {W with σ:=σ'} w1→w1.cell? ⟨B.bw,0,none⟩=some (.pointer (some ⟨be,0,none⟩))∧w1.cell? ⟨B.bw,1,none⟩=some (.slice va n vc)∧w1.cell? ⟨B.bw,2+s,none⟩=some (zi 0)∧w1.frozen? ⟨B.bw,2+s,none⟩=false):=fun σ' w1 q=>by
      have y1:=(q.wcell 1 rfl).1;have y2:=q.wcell (2+s) (worldCs_id (W:={W with σ:=σ'}) i8 hs);rw[show ({W with σ:=σ'}:Wd).ids.getD s 0=0 from h2] at y2;rw[hvd,←hn] at y1;exact⟨(q.wcell 0 rfl).1,y1,y2.1,y2.2⟩
     have D:Hid (∀ w1,WK B be w0 ks {W with σ:=σ1} w1→(w1.setCell ⟨B.bw,2+s,none⟩ (zi (id:Int))).cell? ⟨B.bw,1,none⟩=some (.slice va n vc)∧WK B be w0 ks {W with σ:=σ1,ids:=W.ids.set s id} (w1.setCell ⟨B.bw,2+s,none⟩ (zi (id:Int)))):=fun w1 q=>by
      have q2:=q.putId hs id;have y1:=(q2.wcell 1 rfl).1;rw[hvd,←hn] at y1;exact⟨y1,q2⟩
     have x0:=(C.out W.σ w h).1;have b0:((s:Int)<0)=False:=by simp
     have b1:((7:Int)<(s:Int))=False:=by simp;omega
     have b2:(0:Int)≤(s:Int):=by omega
     have b3:(s:Int)<8:=by omega
     have b4:decide ((s:Int)<0)=false:=by simp
     have b5:decide ((7:Int)<(s:Int))=false:=by simp;omega
     have b6:(7<s)=False:=by simp;omega
     have e1:((id:Int)==(n:Int)+1)=true:=by simp;omega
     have e2:((id:Int) !=(n:Int)+1)=false:=by simp;omega
     have e3:((id:Int)=(n:Int)+1)=True:=by simp;omega
     have n1:IntKind.i64.wrap ((n:Int)+1)=(n:Int)+1:=by rw[IntKind.wrap_i64];omega
     have n2:IntKind.u64.wrap ((nw:Int)+1)=(nw:Int)+1:=by rw[IntKind.wrap_u64];omega
     have T0:=zH h;have HV:=zH (zA hvd (zA hdl (zA hn (zA h1 (zA h6 hnw)))));clear h hr hbe h1 h2 h3 h4 h5 h6 hvd hdl hn hnw i8 hs hc1 hc2 hnwb;go_enter Tryz.func16,Tryz.ntmps16;go_upto_region 8 with (first|(go_at_call 27;refine N1.out.mono ?_;clear T0;rintro e w1 ⟨rfl,q⟩;obtain⟨x1,_⟩:=C.out W.σ w1 q;have T1:=zH q;clear q)|(go_at_call 41;refine (N2.out _ T1.out).mono ?_;rintro e w2 ⟨rfl,q⟩;obtain⟨y0,y1,y2,y3⟩:=C.out σ1 w2 q;have T2:=zH q;clear q T1)|(go_at_call 27;refine (N3.out _ T2.out).mono ?_;clear T2;rintro e w3 ⟨rfl,q⟩;obtain⟨z0,z1,z2,z3⟩:=C.out σ1 w3 q;obtain⟨z4,q2⟩:=D.out w3 q;have T3:=zH q2;clear q q2))
     go_wp2_with (refine Ow.wpList_append_to _ rfl (.tmp 83) (.tmp 89) 28 rfl 0 54 ii _ 6 64 Tryz.underlying28 hii hz0 hz1 hz2 rfl (by decide) (.slice va n vc) n (dealsCs B.ds) rfl (by have k:=(T3.out.alloc (.cells #[zi (id:Int),zi (level:Int),zi 1,zu ((nw:Int)+1),zu 0,.slice none 0 0] 54)).deals;rw[HV.out.1,HV.out.2.1,←HV.out.2.2.1] at k;exact k) ⟨w3.heap.size,0,none⟩ 1 1 (by omega) [zi (id:Int),zi (level:Int),zi 1,zu ((nw:Int)+1),zu 0,.slice none 0 0] rfl rfl (fun j u hu=>Ow.new_row (w3.setCell ⟨B.bw,2+s,none⟩ (zi (id:Int))) [zi (id:Int),zi (level:Int),zi 1,zu ((nw:Int)+1),zu 0,.slice none 0 0] _ w3.heap.size (by simp[World.setCell]) j u hu) (by intro u hu;simp at hu;rcases hu with rfl|rfl|rfl|rfl|rfl|rfl<;>rfl) (by have:=HV.out.2.2.1;have:=HV.out.2.2.2.2.1;unfold maxLen;omega) (by have:=HV.out.2.2.1;have:=HV.out.2.2.2.2.1;omega) (Nat.zero_le _) ?_;intro v' w8 q1 q2 q3;obtain⟨B',r1,r2,r3,r4⟩:=T3.out.addDeal ⟨id,level,1,nw+1,0,[]⟩ rfl ((Below.refl _ _).alloc (Nat.le_refl _) (.cells #[zi (id:Int),zi (level:Int),zi 1,zu ((nw:Int)+1),zu 0,.slice none 0 0] 54)) (by have k1:=HV.out.2.1;have k2:=HV.out.2.2.1;rw[k1,←k2];exact q1) (by rw[HV.out.1,←HV.out.2.2.1];exact q2) (by rw[HV.out.1,←HV.out.2.2.1];exact q3);rw[HV.out.1,←HV.out.2.2.1] at r2;obtain⟨av8,cp8,rfl,_⟩:=Ow.own_form q1;have T4:=zH (zA r1 r4);clear q1 q2 q3 r1 r4);go_ret;have k:=T4.out;rw[HV.out.2.2.2.2.2] at k;exact⟨rfl,B',k.1,k.2⟩
   · cases hr
 · cases hr
theorem refOpOk (o:En.Op) (h:opOk o=true) (w:World):Calls Tryz.prog 33 #[.agg #[zi (o.kind:Int),zi (o.key:Int),zi (o.hi:Int),zi (o.value:Int)]] w fun e w'=>e=.returned (.bool true)∧Below w.heap.size w w':=by
 have hb:Below w.heap.size w (w.alloc (.cells #[zi (o.kind:Int),zi (o.key:Int),zi (o.hi:Int),zi (o.value:Int)] 31)):=(Below.refl _ _).alloc (Nat.le_refl _) _;have HB:=zH hb;clear hb;obtain⟨kind,key,hi,value⟩:=o;unfold opOk at h;simp only at h HB ⊢;have hk:kind=1∨kind=2∨kind=3∨kind=4∨kind=5∨kind=6∨kind=7:=by
  by_cases h1:kind=1;exact .inl h1
  by_cases h2:kind=2;exact .inr (.inl h2)
  by_cases h3:kind=3;exact .inr (.inr (.inl h3))
  by_cases h4:kind=4;exact .inr (.inr (.inr (.inl h4)))
  by_cases h5:kind=5;exact .inr (.inr (.inr (.inr (.inl h5))))
  by_cases h6:kind=6;exact .inr (.inr (.inr (.inr (.inr (.inl h6)))))
  by_cases h7:kind=7;exact .inr (.inr (.inr (.inr (.inr (.inr h7)))))
  simp[h1,h2,h3,h4,h5,h6,h7] at h
 have p0:decide ((0:Int)≤(key:Int))=true:=by simp
 have p1:((0:Int)≤(key:Int))=True:=by simp
 have p2:decide ((0:Int)≤(value:Int))=true:=by simp
 have p3:((0:Int)≤(value:Int))=True:=by simp
 rcases hk with rfl|rfl|rfl|rfl|rfl|rfl|rfl
 · simp only[Bool.and_eq_true,decide_eq_true_eq,beq_iff_eq] at h
   obtain⟨⟨hx,rfl⟩,rfl⟩:=h;have a1:decide ((key:Int)≤(63:Int))=true:=by simp;omega
   have a2:((key:Int)≤(63:Int))=True:=by simp;omega
   clear hx;go_enter Tryz.func33,Tryz.ntmps33;go_wp2;go_ret;exact⟨rfl,HB.out⟩
 · simp only[Bool.and_eq_true,decide_eq_true_eq,beq_iff_eq] at h
   obtain⟨⟨hx,rfl⟩,hy⟩:=h;have a1:decide ((key:Int)≤(63:Int))=true:=by simp;omega
   have a2:((key:Int)≤(63:Int))=True:=by simp;omega
   have c1:decide ((value:Int)≤(65535:Int))=true:=by simp;omega
   have c2:((value:Int)≤(65535:Int))=True:=by simp;omega
   clear hx hy;go_enter Tryz.func33,Tryz.ntmps33;go_wp2;go_ret;exact⟨rfl,HB.out⟩
 · simp only[Bool.and_eq_true,decide_eq_true_eq,beq_iff_eq] at h
   obtain⟨⟨hx,rfl⟩,hy⟩:=h;have a1:decide ((key:Int)≤(63:Int))=true:=by simp;omega
   have a2:((key:Int)≤(63:Int))=True:=by simp;omega
   have c1:decide ((value:Int)≤(65535:Int))=true:=by simp;omega
   have c2:((value:Int)≤(65535:Int))=True:=by simp;omega
   clear hx hy;go_enter Tryz.func33,Tryz.ntmps33;go_wp2;go_ret;exact⟨rfl,HB.out⟩
 · simp only[Bool.and_eq_true,decide_eq_true_eq,beq_iff_eq] at h
   obtain⟨⟨hx,rfl⟩,rfl⟩:=h;have a1:decide ((key:Int)≤(63:Int))=true:=by simp;omega
   have a2:((key:Int)≤(63:Int))=True:=by simp;omega
   clear hx;go_enter Tryz.func33,Tryz.ntmps33;go_wp2;go_ret;exact⟨rfl,HB.out⟩
 · simp only[Bool.and_eq_true,decide_eq_true_eq,beq_iff_eq] at h
   obtain⟨⟨⟨hx,hy⟩,hz⟩,rfl⟩:=h;have a1:decide ((key:Int)≤(63:Int))=true:=by simp;omega
   have a2:((key:Int)≤(63:Int))=True:=by simp;omega
   have b1:decide ((key:Int)≤(hi:Int))=true:=by simp;omega
   have b2:((key:Int)≤(hi:Int))=True:=by simp;omega
   have e1:decide ((hi:Int)≤(63:Int))=true:=by simp;omega
   have e2:((hi:Int)≤(63:Int))=True:=by simp;omega
   clear hx hy hz;go_enter Tryz.func33,Tryz.ntmps33;go_wp2;go_ret;exact⟨rfl,HB.out⟩
 · simp only[Bool.and_eq_true,decide_eq_true_eq,beq_iff_eq] at h
   obtain⟨⟨rfl,rfl⟩,rfl⟩:=h;go_enter Tryz.func33,Tryz.ntmps33;go_wp2;go_ret;exact⟨rfl,HB.out⟩
 · simp only[Bool.and_eq_true,decide_eq_true_eq,beq_iff_eq] at h
   obtain⟨⟨rfl,rfl⟩,rfl⟩:=h;go_enter Tryz.func33,Tryz.ntmps33;go_wp2;go_ret;exact⟨rfl,HB.out⟩
theorem obj_cell {w:World} {g:Nat} {cs:Array Value} {T:TypeId} (h:w.heap[g]? =some (.cells cs T)) (i:Nat) {v:Value} (hv:cs[i]? =some v):w.cell? ⟨g,i,none⟩=some v:=by
 rw[cell_of_row w g i _ _ _ h];exact hv
def wIssueOk (W:Wd) (s:Nat) (o:En.Op):Option Wd:=
 match issueOk W.σ s o with
 |some σ1=>if opOk o=true∧W.ids.getD s 0≠0∧(W.σ.status s).busy=false∧((W.σ.status s).ops<12∨6≤o.kind)∧(σ1.status s).busy=true then some {W with σ:=σ1,ops:=W.ops.set s o} else none
 |none=>none
theorem worldCs_len {be:Nat} {B:WBook} {W:Wd} (h8:W.ids.length=8) (o8:W.ops.length=8):(worldCs be B W).length=43:=by
 have hl:(W.ops.flatMap opC).length=32:=by rw[opC_len,o8]
 unfold worldCs;simp only[List.length_append,List.length_cons,List.length_nil,List.length_map,hl,h8]
theorem WK.there {B:WBook} {be:Nat} {w0 w:World} {ks:List Kept} {W:Wd} (h:WK B be w0 ks W w) {s:Nat} (hs:s<8):w.there B.bw (10+s*4) 4:=by
 intro j hj;have hlen:=worldCs_len (be:=be) (B:=B) h.i8 h.o8;obtain⟨v,hv⟩:∃ v,(worldCs be B W)[10+s*4+j]? =some v:=⟨_,List.getElem?_eq_getElem (by rw[hlen];omega)⟩
 have:=h.wcell _ hv;exact⟨by rw[this.1];rfl,this.2⟩
theorem wissue_any {B:WBook} {be:Nat} {w0 w:World} {ks:List Kept} {W W':Wd} (h:WK B be w0 ks W w) {s:Nat} (hs:s<8) (o:En.Op) (hr:wIssueOk W s o=some W'):
 Calls Tryz.prog 21 #[.pointer (some ⟨B.bw,0,none⟩),zi (s:Int),.agg #[zi (o.kind:Int),zi (o.key:Int),zi (o.hi:Int),zi (o.value:Int)]] w fun e w'=>e=.returned (.bool true)∧WK B be w0 ks W' w':=by
 unfold wIssueOk at hr
 split at hr
 · rename_i σ1 hbe
   split at hr
   · rename_i hh
     obtain⟨h1,h2,h3,h4,h5⟩:=hh;obtain rfl:=Option.some.inj hr;obtain⟨lv,wt,a1,a2,a3,a4,a5,ops,hst,hop⟩:∃ lv wt a1 a2 a3 a4 a5,∃ ops:Nat,statusCs (W.σ.status s)=#[.bool lv,.bool false,.bool wt,zi a1,zi a2,zi a3,zu a4,zu a5,zi (ops:Int)]∧((o.kind<6∧ops<12)∨6≤o.kind):=by
      refine⟨(W.σ.status s).live,(W.σ.status s).waits,((W.σ.status s).id:Int),((W.σ.status s).level:Int),((W.σ.status s).state:Int),((W.σ.status s).begin_:Int),((W.σ.status s).end_:Int),(W.σ.status s).ops,?_,by omega⟩;unfold statusCs;rw[h3]
     obtain⟨id,hid,hid0⟩:∃ id,id=W.ids.getD s 0∧id≠0:=⟨_,rfl,h2⟩
     have N1:Hid (∀ ks w1,WK B be w0 ks W w1→Calls Tryz.prog 18 #[.pointer (some ⟨be,0,none⟩),zi (s:Int)] w1 fun e w'=>e=.returned (.agg #[.bool lv,.bool false,.bool wt,zi a1,zi a2,zi a3,zu a4,zu a5,zi (ops:Int)])∧WK B be w0 ks W w'):=fun ks w1 q=>by
      have hh:=status_wk q s hs;rw[hst] at hh;exact hh
     have N2:Hid (∀ ks w1,WK B be w0 ks W w1→Calls Tryz.prog 17 #[.pointer (some ⟨be,0,none⟩),zi (s:Int),.agg #[zi (o.kind:Int),zi (o.key:Int),zi (o.hi:Int),zi (o.value:Int)]] w1 fun e w'=>e=.returned (zi 0)∧WK B be w0 ks {W with σ:=σ1} w'):=fun ks w1 q=>issue_wk q hs hbe
     have N3:Hid (∀ w1,Calls Tryz.prog 33 #[.agg #[zi (o.kind:Int),zi (o.key:Int),zi (o.hi:Int),zi (o.value:Int)]] w1 fun e w'=>e=.returned (.bool true)∧Below w1.heap.size w1 w'):=fun w1=>refOpOk o h1 w1
     have N4:Hid (∀ W2 ks w1,W2.σ=σ1→WK B be w0 ks W2 w1→Calls Tryz.prog 18 #[.pointer (some ⟨be,0,none⟩),zi (s:Int)] w1 fun e w'=>∃ y1 y2 y3 y4 y5 y6 y7 y8,e=.returned (.agg #[y1,.bool true,y2,y3,y4,y5,y6,y7,y8])∧WK B be w0 ks W2 w'):=fun W2 ks w1 e2 q=>by
      have hh:=status_wk q s hs;unfold statusCs at hh;rw[e2,h5] at hh;exact hh.mono fun e w' x=>⟨_,_,_,_,_,_,_,_,x.1,x.2⟩
     have i8:=h.i8;have C:Hid (∀ σ' ks w1,WK B be w0 ks {W with σ:=σ'} w1→w1.cell? ⟨B.bw,0,none⟩=some (.pointer (some ⟨be,0,none⟩))∧w1.cell? ⟨B.bw,2+s,none⟩=some (zi (id:Int))):=fun σ' ks w1 q=>by
      have y2:=q.wcell (2+s) (worldCs_id (W:={W with σ:=σ'}) i8 hs);rw[show ({W with σ:=σ'}:Wd).ids.getD s 0=id from hid.symm] at y2;exact⟨(q.wcell 0 rfl).1,y2.1⟩
     have D:Hid (∀ ks w1,WK B be w0 ks {W with σ:=σ1} w1→(∃ u0 u1 u2 u3,w1.cell? ⟨B.bw,10+s*4,none⟩=some u0∧w1.cell? ⟨B.bw,10+s*4+1,none⟩=some u1∧w1.cell? ⟨B.bw,10+s*4+2,none⟩=some u2∧w1.cell? ⟨B.bw,10+s*4+3,none⟩=some u3∧w1.frozen? ⟨B.bw,10+s*4,none⟩=false∧w1.frozen? ⟨B.bw,10+s*4+1,none⟩=false∧w1.frozen? ⟨B.bw,10+s*4+2,none⟩=false∧w1.frozen? ⟨B.bw,10+s*4+3,none⟩=false)∧WK B be w0 ks {W with σ:=σ1,ops:=W.ops.set s o} (w1.setCells B.bw (10+s*4) [zi (o.kind:Int),zi (o.key:Int),zi (o.hi:Int),zi (o.value:Int)])):=fun ks w1 q=>by
      refine⟨?_,q.putOp hs o⟩;obtain⟨t0,f0⟩:=q.there hs 0 (by omega);obtain⟨t1,f1⟩:=q.there hs 1 (by omega);obtain⟨t2,f2⟩:=q.there hs 2 (by omega);obtain⟨t3,f3⟩:=q.there hs 3 (by omega);obtain⟨u0,k0⟩:=Option.isSome_iff_exists.1 t0;obtain⟨u1,k1⟩:=Option.isSome_iff_exists.1 t1;obtain⟨u2,k2⟩:=Option.isSome_iff_exists.1 t2;obtain⟨u3,k3⟩:=Option.isSome_iff_exists.1 t3;exact⟨u0,u1,u2,u3,k0,k1,k2,k3,f0,f1,f2,f3⟩
     have O0:Hid (∀ ks W1 w1 g,WK B be w0 (.obj g (.cells #[zi (o.kind:Int),zi (o.key:Int),zi (o.hi:Int),zi (o.value:Int)] 31)::ks) W1 w1→w1.cell? ⟨g,0,none⟩=some (zi (o.kind:Int))∧w1.cell? ⟨g,1,none⟩=some (zi (o.key:Int))∧w1.cell? ⟨g,2,none⟩=some (zi (o.hi:Int))∧w1.cell? ⟨g,3,none⟩=some (zi (o.value:Int))):=fun ks W1 w1 g q=>by
      have hb:=q.obj (List.mem_cons_self);exact⟨obj_cell hb 0 rfl,obj_cell hb 1 rfl,obj_cell hb 2 rfl,obj_cell hb 3 rfl⟩
     have O1:Hid (∀ ks W1 w1 g,WK B be w0 (.obj g (.cells #[.bool lv,.bool false,.bool wt,zi a1,zi a2,zi a3,zu a4,zu a5,zi (ops:Int)] 38)::ks) W1 w1→w1.cell? ⟨g,1,none⟩=some (.bool false)∧w1.cell? ⟨g,8,none⟩=some (zi (ops:Int))):=fun ks W1 w1 g q=>by
      have hb:=q.obj (List.mem_cons_self);exact⟨obj_cell hb 1 rfl,obj_cell hb 8 rfl⟩
     have b0:((s:Int)<0)=False:=by simp
     have b1:((7:Int)<(s:Int))=False:=by simp;omega
     have b2:(0:Int)≤(s:Int):=by omega
     have b3:(s:Int)<8:=by omega
     have b4:decide ((s:Int)<0)=false:=by simp
     have b5:decide ((7:Int)<(s:Int))=false:=by simp;omega
     have b6:(7<s)=False:=by simp;omega
     have e1:((id:Int)==0)=false:=by simp;omega
     have e3:((id:Int)=0)=False:=by simp;omega
     have e4:(id=0)=False:=by simp;omega
     have T0:=zH (h.alloc (.cells #[zi (o.kind:Int),zi (o.key:Int),zi (o.hi:Int),zi (o.value:Int)] 31));have G0:=zH h.lt;have x0:=(C.out W.σ _ _ T0.out).1;obtain⟨o0,o1,o2,o3⟩:=O0.out _ _ _ _ T0.out;have HO:Hid (∀ ks W1 w1 g,WK B be w0 (.obj g (.cells #[.bool lv,.bool false,.bool wt,zi a1,zi a2,zi a3,zu a4,zu a5,zi (ops:Int)] 38)::.obj w.heap.size (.cells #[zi (o.kind:Int),zi (o.key:Int),zi (o.hi:Int),zi (o.value:Int)] 31)::ks) W1 w1→w1.cell? ⟨w.heap.size,0,none⟩=some (zi (o.kind:Int))∧w1.cell? ⟨w.heap.size,1,none⟩=some (zi (o.key:Int))∧w1.cell? ⟨w.heap.size,2,none⟩=some (zi (o.hi:Int))∧w1.cell? ⟨w.heap.size,3,none⟩=some (zi (o.value:Int))):=fun ks W1 w1 g q=>O0.out _ _ _ _ q.tail
     clear h hr hbe h1 h2 h3 h4 h5 hst i8 hid hid0 hs;have hd:(decide ((o.kind:Int)<6)=true∧((o.kind:Int)<6)=True∧(o.kind<6)=True∧decide ((12:Int)≤(ops:Int))=false∧((12:Int)≤(ops:Int))=False∧(12≤ops)=False)∨(decide ((o.kind:Int)<6)=false∧((o.kind:Int)<6)=False∧(o.kind<6)=False):=by
      rcases hop with hop|hop
      · exact .inl ⟨by simp;omega,by simp;omega,by simp;omega,by simp;omega,by simp;omega,by simp;omega⟩
      · exact .inr ⟨by simp;omega,by simp;omega,by simp;omega⟩
     rcases hd with ⟨d1,d2,d3,d4,d5,d6⟩|⟨d1,d2,d3⟩
     all_goals (
      clear hop
      go_enter Tryz.func21,Tryz.ntmps21
      go_upto_region 2 with (go_at_call 18;refine (N1.out _ _ T0.out).mono ?_;rintro e w1 ⟨rfl,q⟩;have T1:=zH (q.alloc (.cells #[.bool lv,.bool false,.bool wt,zi a1,zi a2,zi a3,zu a4,zu a5,zi (ops:Int)] 38));clear q T0)
      generalize w1.alloc _=v1 at*
      generalize w1.heap.size=g1 at*
      generalize w.heap.size=g0 at*
      have T1d:=zH T1.out.drew
      obtain⟨u0,u1⟩:=C.out W.σ _ _ T1.out
      obtain⟨p0,p1,p2,p3⟩:=HO.out _ _ _ _ T1.out
      obtain⟨p4,p5⟩:=O1.out _ _ _ _ T1.out
      have HK2:Hid (∀ w',WK B be w0 (.obj g1 (.cells #[.bool lv,.bool false,.bool wt,zi a1,zi a2,zi a3,zu a4,zu a5,zi (ops:Int)] 38)::.obj g0 (.cells #[zi (o.kind:Int),zi (o.key:Int),zi (o.hi:Int),zi (o.value:Int)] 31)::ks) {W with σ:=σ1} w'→w'.cell? ⟨B.bw,0,none⟩=some (.pointer (some ⟨be,0,none⟩))∧w'.cell? ⟨g0,0,none⟩=some (zi (o.kind:Int))∧w'.cell? ⟨g0,1,none⟩=some (zi (o.key:Int))∧w'.cell? ⟨g0,2,none⟩=some (zi (o.hi:Int))∧w'.cell? ⟨g0,3,none⟩=some (zi (o.value:Int))):=fun w' q=>by
       obtain⟨c0,c1⟩:=C.out σ1 _ _ q
       obtain⟨d0,d1,d2,d3⟩:=HO.out _ _ _ _ q
       exact⟨c0,d0,d1,d2,d3⟩
      clear x0 o0 o1 o2 o3
      go_region_held3 (fun w'=>w'.cell? ⟨B.bw,0,none⟩=some (.pointer (some ⟨be,0,none⟩))∧w'.cell? ⟨g0,0,none⟩=some (zi (o.kind:Int))∧w'.cell? ⟨g0,1,none⟩=some (zi (o.key:Int))∧w'.cell? ⟨g0,2,none⟩=some (zi (o.hi:Int))∧w'.cell? ⟨g0,3,none⟩=some (zi (o.value:Int)))
       (first|exact⟨u0,p0,p1,p2,p3⟩|assumption|go_keep|exact HK2.out _ (by assumption))
       (first|(go_at_call 17;refine (N2.out _ _ T1d.out).mono ?_;rintro e w2 ⟨rfl,q⟩))
      obtain⟨x0,x1⟩:=C.out σ1 _ _ q
      obtain⟨y0,y1,y2,y3⟩:=HO.out _ _ _ _ q
      obtain⟨y4,y5⟩:=O1.out _ _ _ _ q
      have T2:=zH q
      clear q T1 T1d u0 u1 p0 p1 p2 p3 p4 p5 HK2
      go_upto_region 17 with (go_at_call 33;refine (N3.out _).mono ?_;rintro e w3 ⟨rfl,hb⟩;have q3:=T2.out.below hb;obtain⟨x0',x1'⟩:=C.out σ1 _ _ q3;obtain⟨z0,z1,z2,z3⟩:=HO.out _ _ _ _ q3;obtain⟨z4,z5⟩:=O1.out _ _ _ _ q3;have T3:=zH q3;clear q3 hb)
      obtain⟨⟨u0,u1,u2,u3,k0,k1,k2,k3,f0,f1,f2,f3⟩,m2⟩:=D.out _ _ T3.out
      have T4:=zH m2
      clear m2
      go_region
      have T5:Hid (WK B be w0 _ {W with σ:=σ1,ops:=W.ops.set s o} (World.drew ((((w3.setCell ⟨B.bw,10+s*4,none⟩ (zi (o.kind:Int))).setCell ⟨B.bw,10+s*4+1,none⟩ (zi (o.key:Int))).setCell ⟨B.bw,10+s*4+2,none⟩ (zi (o.hi:Int))).setCell ⟨B.bw,10+s*4+3,none⟩ (zi (o.value:Int))))):=zH T4.out.drew
      clear T4 T3 T2 k0 k1 k2 k3 f0 f1 f2 f3 z0 z1 z2 z3 z4 z5 x0 x1 x0' x1' y0 y1 y2 y3 y4 y5
      generalize World.drew _=w5 at*
      have x0:=(T5.out.wcell 0 rfl).1
      go_wp2_with (go_at_call 18;refine (N4.out _ _ _ rfl T5.out).mono ?_;rintro e w6 ⟨y1,y2,y3,y4,y5,y6,y7,y8,rfl,q⟩;have hf:=fld_busy (.bool true) y1 y2 y3 y4 y5 y6 y7 y8;have T6:=zH q;clear q T5)
      go_ret
      exact⟨rfl,T6.out.tail.tail⟩
     )
   · cases hr
 · cases hr
def wNew (n l:Nat):Wd:={σ:=new n l,deals:=[],ids:=List.replicate 8 0,ops:=List.replicate 8 ⟨0,0,0,0⟩,gone:=[]}
theorem wk_new {be:Nat} {w0 w:World} {σ:St} (h:EKt be w0 [] σ w):WK ⟨lab1 (fun _=>none) w.heap.size .eng,w.heap.size,.slice none 0 0,.slice none 0 0,[],fun _=>[]⟩ be w0 [] {σ:=σ,deals:=[],ids:=List.replicate 8 0,ops:=List.replicate 8 ⟨0,0,0,0⟩,gone:=[]} (w.alloc (.cells (worldCs be ⟨lab1 (fun _=>none) w.heap.size .eng,w.heap.size,.slice none 0 0,.slice none 0 0,[],fun _=>[]⟩ {σ:=σ,deals:=[],ids:=List.replicate 8 0,ops:=List.replicate 8 ⟨0,0,0,0⟩,gone:=[]}).toArray 35)):=by
 obtain⟨A,rfl,l,g,_⟩:=h.ex;obtain⟨_,g1,t1,t2⟩:=l.rep.newTmp (.cells (worldCs A.be ⟨lab1 (fun _=>none) w.heap.size .eng,w.heap.size,.slice none 0 0,.slice none 0 0,[],fun _=>[]⟩ {σ:=σ,deals:=[],ids:=List.replicate 8 0,ops:=List.replicate 8 ⟨0,0,0,0⟩,gone:=[]}).toArray 35);refine⟨A.tmp w.heap.size,rfl,l.newTmp _,⟨fun b r hb=>?_,⟨fun q=>?_,fun b hb=>?_⟩,(fun k p hk=>by cases hk),rfl,rfl,rfl⟩,g.trans g1,trivial⟩
 · by_cases hbb:b=w.heap.size
   · subst hbb;exact t1
   · replace hb:lab1 (fun _=>none) w.heap.size Role.eng b=some r:=hb
     rw[lab1_other hbb] at hb;cases hb
 · cases q with
   |eng=>exact⟨(lab1_same _ _ _:lab1 (fun _=>none) w.heap.size Role.eng w.heap.size=_),t2⟩
   |tale=>exact⟨World.ownsRow_nil _ _ _ _,fun g hg=>by cases hg⟩
   |free=>exact⟨World.ownsRow_nil _ _ _ _,fun g hg=>by cases hg⟩
   |reads k=>exact trivial
   |_=>exact trivial
 · have:w.heap.size+1≤b:=by simpa using hb
   exact (lab1_other (by omega):lab1 (fun _=>none) w.heap.size Role.eng b=none)
theorem wnew_any (n l:Nat) (h1:1≤n) (h2:n≤256) (h3:1≤l) (h4:l≤1099511627776) (w:World):
 Calls Tryz.prog 15 #[zi (n:Int),zu (l:Int)] w fun e w'=>∃ B be,e=.returned (.pointer (some ⟨B.bw,0,none⟩))∧WK B be w [] (wNew n l) w':=by
 have HN:Hid (Calls Tryz.prog 26 #[.agg #[zi (n:Int),zu (l:Int)]] w fun e w'=>∃ b,e=.returned (.tuple #[.pointer (some ⟨b,0,none⟩),zi 0])∧EKt b w [] (new n l) w'):=(new_at n l h1 h2 h3 h4 w).mono fun e w' ⟨b,h,q⟩=>⟨b,h,q.kt⟩
 clear h1 h2 h3 h4;go_enter Tryz.func15,Tryz.ntmps15;go_wp2_with (go_at_call 26;refine HN.out.mono ?_;rintro e w1 ⟨be,rfl,q⟩;have T1:=zH q;clear q);go_ret;exact⟨_,_,rfl,wk_new T1.out⟩
end Go.Proofs.YtbefcdjcefmicaaGreat.Em
