import Derived.Test.YthicolbbmjfkfaaGreatQp3
namespace Go.Proofs.YthicolbbmjfkfaaGreat.Em
open Go.ChangeShapes Go.WideShapes Go.ChangeAt Go.RowKit En
set_option linter.unusedVariables false
set_option linter.unusedSimpArgs false
set_option maxRecDepth 100000
set_option maxHeartbeats 1600000
variable {A:Book} {σ:St} {w:World}
theorem infoI:(Tryz.prog.info? 3).map (fun i=>(i.zero,i.size,i.bytes))=some (some (zi 0),1,8):=by kernel_rfl
def FreeOnly (A A':Book):Prop:=∃ L v,A'={A with L:=L,vfree:=v}
def freeTo (σ:St) (k:Nat):St:={σ with free:=σ.free++(List.range σ.slots).reverse.take k}
theorem freeTo_succ (σ:St) (k:Nat) (hk:k<σ.slots):(freeTo σ (k+1)).free=(freeTo σ k).free++[σ.slots - 1 - k]:=by
 unfold freeTo;simp only;rw[List.take_succ_eq_append_getElem (by simpa using hk),List.append_assoc];simp
theorem free_row (h:Rep A σ w):w.ownsRow 0 3 1 A.vfree σ.free.length (σ.free.map i64):=(h.mem.all .free).1
theorem free_step (hR:Rep A σ w) (i:Nat):
 ∃ av capv,A.vfree=.slice av σ.free.length capv∧∀ v' w2,w2.ownsRow 0 3 1 v' (σ.free.length+1) (σ.free.map i64++[zi (i:Int)])→(w.alloc (.cells #[zi (i:Int)] 3)).grownBy w2 A.vfree.ownBlock→(v'.ownBlock=A.vfree.ownBlock∨∀ g,v'.ownBlock=some g→(w.alloc (.cells #[zi (i:Int)] 3)).heap.size≤g)→
  (∃ A',FreeOnly A A'∧Rep A' {σ with free:=σ.free++[i]} (w2.setCell ⟨A.bp,2,none⟩ v')∧Grow A.L w A'.L (w2.setCell ⟨A.bp,2,none⟩ v'))∧w2.cell? ⟨A.bp,2,none⟩=some A.vfree∧w2.frozen? ⟨A.bp,2,none⟩=false∧(∀ b u,A.L b=none→w.cell? ⟨b,0,none⟩=some u→w2.cell? ⟨b,0,none⟩=some u):=by
 obtain⟨av,capv,hv,_⟩:=Ow.own_form (free_row hR);refine⟨av,capv,hv,fun v' w2 q1 q2 q3=>?_⟩;obtain⟨r1,g1,_⟩:=allocs1 hR #[zi (i:Int)] 3;obtain⟨p1,p2,p3,p4⟩:=r1.freeOn (σ.free++[i]) v' q2 (by simpa using q1) q3;refine⟨⟨_,⟨_,_,rfl⟩,p1,g1.trans p2⟩,p3,p4,fun b u hl hc=>?_⟩;have hc1:(w.alloc (.cells #[zi (i:Int)] 3)).cell? ⟨b,0,none⟩=some u:=by
  rw[World.cell?_alloc_past _ _ _ (World.block_lt_of_cell? w _ hc)];exact hc
 refine q2.cell hc1 fun e=>?_
 have:=(hR.mem.all .free).2 b e.symm;rw[hl] at this
 cases this
theorem list_body (hR:Rep A σ w) (b0:Nat) (B0:Box A.L w b0 (.pointer (some ⟨A.bp,0,none⟩))) (hn:σ.free.length<100000):
 Calls Tryz.prog 161 #[.pointer (some ⟨b0,0,none⟩)] w fun e w'=>e=.returned (.tuple #[])∧∃ A',FreeOnly A A'∧Rep A' (freeTo σ σ.slots) w'∧Grow A.L w A'.L w':=by
 have c0:=B0.cell;have p0:w.cell? ⟨A.bp,0,none⟩=some (.slice (some ⟨A.bs,0,none⟩) σ.slots σ.slots):=hR.pool 0 rfl;have hsl:=hR.sl;have HR:=zH hR;have HB:=zH B0;have HN:=zH (zA hn hsl);have hw1:IntKind.i64.wrap ((σ.slots:Int) - 1)=(σ.slots:Int) - 1:=by rw[IntKind.wrap_i64];omega
 clear hR B0 hn hsl;go_enter Tryz.func161,Tryz.ntmps161;go_wp2_with fail
 go_loopw [1] (fun i wr=>∃ k:Nat,k≤σ.slots∧i=zi ((σ.slots:Int) - 1 - (k:Int))∧∃ A',FreeOnly A A'∧Rep A' (freeTo σ k) wr∧Grow A.L w A'.L wr) (fun i _=>(intOf i+1).toNat)
 case atStart=>exact⟨0,Nat.zero_le _,by simp,A,⟨_,_,rfl⟩,by simpa [freeTo] using HR.out,Grow.refl _ _⟩
 case round=>
  obtain⟨k,hk,rfl,A',⟨L',v1,rfl⟩,hr,hg⟩:=hrel
  by_cases hlt:k<σ.slots
  · obtain⟨j,hj⟩:∃ j:Nat,j=σ.slots - 1 - k:=⟨_,rfl⟩
    have ej:(σ.slots:Int) - 1 - (k:Int)=(j:Int):=by omega
    rw[ej];have d1:(0:Int)≤(j:Int):=by omega
    have d2:IntKind.i64.wrap ((j:Int) - 1)=(j:Int) - 1:=by rw[IntKind.wrap_i64];have:=HN.out.2;omega
    have B1:=HB.out.grow hg;obtain⟨av,capv,hv,hstep⟩:=free_step hr j;obtain⟨r1,g1,_⟩:=allocs1 hr #[zi (j:Int)] 3;have c0:=B1.cell;have c1:=(B1.grow g1).cell;have hb0:L' b0=none:=by obtain⟨_,hx⟩:=B1;exact hx.1
    have HB0:=zH (zA hb0 c0);clear hb0;have p2:wr.cell? ⟨A.bp,2,none⟩=some v1:=hr.pool 2 rfl;have p3:(wr.alloc (.cells #[zi (j:Int)] 3)).cell? ⟨A.bp,2,none⟩=some v1:=r1.pool 2 rfl;have hown:(wr.alloc (.cells #[zi (j:Int)] 3)).ownsRow 0 3 1 v1 (freeTo σ k).free.length ((freeTo σ k).free.map i64):=free_row r1;have hv':v1=.slice av (freeTo σ k).free.length capv:=hv;have hfl:(freeTo σ k).free.length=σ.free.length+k:=by unfold freeTo;simp;omega
    rw[hv'] at p2 p3 hown;have HST:=zH hstep;have HV:=zH hv';have HO:=zH hown;have HL:=zH (zA hlt (zA hj (zA ej (zA hfl hg))));have hlen:(freeTo σ k).free.length<200000:=by have:=HN.out.1;have:=HN.out.2;omega
    clear hr hg B1 r1 g1 hstep hv hv' hown hfl hlt hj ej hk;generalize (freeTo σ k).free.length=len at*;obtain⟨i0,hi,hz0,hz1,hz2⟩:=info_parts infoI;go_wp2_with fail
    go_region_law (first|(refine Ow.wp_append_to _ (.tmp 16) (.tmp 18) 36 rfl 0 _ i0 _ 1 8 Tryz.underlying36 hi hz0 hz1 hz2 rfl (by decide) (.slice av len capv) len ((freeTo σ k).free.map i64) rfl HO.out ⟨wr.heap.size,0,none⟩ 1 1 (by omega) [zi (j:Int)] rfl rfl (by intro j' u hu;exact Ow.new_row wr [zi (j:Int)] _ _ rfl j' u hu) (by intro u hu;obtain rfl:=List.mem_singleton.1 hu;rfl) (by unfold maxLen;omega) (by omega) (Nat.zero_le _) ?_;intro v' w2 q1 q2 q3;obtain⟨r1,r2,r3,r4⟩:=HST.out v' w2 q1 (by show (wr.alloc _).grownBy w2 v1.ownBlock;rw[HV.out];exact grown_drew q2) (by show v'.ownBlock=v1.ownBlock∨_;rw[HV.out];exact q3);obtain⟨a4,cap4,rfl,_⟩:=Ow.own_form q1;have R1:=zH r1;have c02:=r4 b0 _ HB0.out.1 HB0.out.2;clear r1 r4 q1 q2 q3))
    all_goals
     go_wp2_with fail
     go_roundw
     case rel=>
      obtain⟨h1,h2,h3,h4,h5⟩:=HL.out;obtain⟨A2,⟨L2,v2,rfl⟩,q1,q2⟩:=R1.out;refine⟨k+1,by omega,by rw[show (σ.slots:Int) - 1 - ((k+1:Nat):Int)=(j:Int) - 1 by omega],_,⟨L2,v2,rfl⟩,?_,h5.trans q2⟩;have e:freeTo σ (k+1)={freeTo σ k with free:=(freeTo σ k).free++[j]}:=by
       have:=freeTo_succ σ k h1;unfold freeTo at this ⊢;simp only at this ⊢;rw[this,h2]
      rw[e];exact q1
     case measure=>simp[intOf]<;>omega
  · obtain rfl:k=σ.slots:=by omega
    have em:(σ.slots:Int) - 1 - (σ.slots:Int)=-1:=by omega
    rw[em];have HL:=zH (zA hr hg);clear hr hg hlt hk em;go_wp2_with fail
    go_end0
    exact⟨rfl,_,⟨L',v1,rfl⟩,HL.out.1,HL.out.2⟩
structure PoolOnly (A A':Book):Prop where
 ex:∃ L v m,A'={A with L:=L,vfree:=v,mp:=m}
 mp:A'.mp=A.mp
theorem PoolOnly.refl (A:Book):PoolOnly A A:=⟨⟨_,_,_,rfl⟩,rfl⟩
def Pooled (A:Book) (w:World) (σ':St) (v:Value):Ending→World→Prop:=fun e w'=>e=.returned v∧∃ A',PoolOnly A A'∧Rep A' σ' w'∧Grow A.L w A'.L w'
theorem list_any (hR:Rep A σ w) (hm:A.mp=0) (hn:σ.free.length<100000):
 Calls Tryz.prog 137 #[.pointer (some ⟨A.bp,0,none⟩)] w (Pooled A w σ.list (.tuple #[])):=by
 obtain⟨r1,g1,f0⟩:=allocs1 hR #[.pointer (some ⟨A.bp,0,none⟩)] 102;have c0:=f0.cell 0 (v:=.pointer (some ⟨A.bp,0,none⟩)) rfl
 by_cases hl:σ.listed=true
 · have p4:(w.alloc (.cells #[.pointer (some ⟨A.bp,0,none⟩)] 102)).cell? ⟨A.bp,4,none⟩=some (.int .u32 1):=r1.pool 4 (by simp[poolCs,onceCs,hl])
   have hd:=do_done ⟨A.bp,4,none⟩ (.func (.func 161) #[] #[.pointer (some ⟨w.heap.size,0,none⟩)]) _ p4;have e:σ.list=σ:=by unfold St.list;rw[if_pos hl]
   rw[e];have HR:=zH (zA r1 g1);have HD:=zH hd;clear hR r1 g1 f0 hd e hl hn p4 hm;go_enter Tryz.func137,Tryz.ntmps137;go_wp2_with (go_at_call 146;refine HD.out.mono ?_;rintro e w' ⟨rfl,rfl⟩)
   go_end0
   exact⟨rfl,A,PoolOnly.refl A,HR.out.1,HR.out.2⟩
 · have hl':σ.listed=false:=by simpa using hl
   have p4:(w.alloc (.cells #[.pointer (some ⟨A.bp,0,none⟩)] 102)).cell? ⟨A.bp,4,none⟩=some (.int .u32 0):=r1.pool 4 (by simp[poolCs,onceCs,hl']);have p5:(w.alloc (.cells #[.pointer (some ⟨A.bp,0,none⟩)] 102)).cell? ⟨A.bp,5,none⟩=some (.int .i32 0):=r1.pool 5 (by simp[poolCs,onceCs,hm]);obtain⟨r2,g2⟩:=r1.poolLock 1;have hb:=list_body r2 w.heap.size (f0.box.grow g2) hn;have hd:=do_first A.bp 4 161 #[.pointer (some ⟨w.heap.size,0,none⟩)] (w.alloc (.cells #[.pointer (some ⟨A.bp,0,none⟩)] 102))
    (fun w'=>∃ A',FreeOnly {A with mp:=1} A'∧Rep A' (freeTo σ σ.slots) w'∧Grow A.L w A'.L w') p4 p5 (r1.poolF 4) (r1.poolF 5) (enter_list _)
    (hb.mono fun e w' ⟨h1,A',h2,h3,h4⟩=>⟨h1,A',h2,h3,(g1.trans g2).trans h4⟩)
    (by
      rintro w' ⟨A',⟨L,v,rfl⟩,h3,h4⟩
      exact⟨h3.pool 4 (by simp[poolCs,onceCs,freeTo,hl']),h3.pool 5 (by simp[poolCs,onceCs]),h3.poolF 4,h3.poolF 5⟩)
   have e:σ.list={freeTo σ σ.slots with listed:=true}:=by
    have ht:(List.range σ.slots).reverse.take σ.slots=(List.range σ.slots).reverse:=List.take_of_length_le (by simp);unfold St.list freeTo;rw[if_neg hl,ht]
   rw[e];have HD:=zH hd;have HM:=zH hm;clear hR r1 g1 f0 hd e hl hn p4 p5 r2 g2 hb hl' hm;go_enter Tryz.func137,Tryz.ntmps137;go_wp2_with (go_at_call 146;refine HD.out.mono ?_;rintro e w' ⟨rfl,w2,⟨A',⟨L,v,rfl⟩,h3,h4⟩,rfl⟩)
   go_end0
   obtain⟨k1,q1⟩:=h3.drew.poolDone;obtain⟨k2,q2⟩:=k1.poolLock 0;exact⟨rfl,_,⟨⟨L,v,0,rfl⟩,HM.out.symm⟩,k2,((h4.trans (Grow.drew _ _)).trans q1).trans q2⟩
theorem link_any (hR:Rep A σ w) (i:Nat) (hi:i<σ.slots) (ht:(σ.tags.getD i (0,false)).1≤65535):
 Calls Tryz.prog 158 #[.pointer (some ⟨A.bp,0,none⟩),zi (i:Int)] w fun e w'=>e=.returned (zu ((σ.linkAt i:Nat):Int))∧w=w':=by
 have p0:w.cell? ⟨A.bp,0,none⟩=some (.slice (some ⟨A.bs,0,none⟩) σ.slots σ.slots):=hR.pool 0 rfl;have t0:=(hR.tag hi).1;have t0':=t0;rw[Nat.mul_comm] at t0';have hsl:=hR.sl;have e:((σ.linkAt i:Nat):Int)=((σ.tags.getD i (0,false)).1:Int)*131072+((i:Int)+1):=by unfold St.linkAt linkOf;omega
 have hk:=Word.link_yes (i:Int) ((σ.tags.getD i (0,false)).1:Int) (by omega) (by omega) (by omega) (by omega) w;rw[e];have b1:(i:Int)<(σ.slots:Int):=by omega
 have b0:(0:Int)≤(i:Int):=by omega
 have HK:=zH hk;clear hR hi ht hsl e hk;generalize (σ.tags.getD i (0,false)).1=tg at*;generalize σ.slots=n at*;go_enter Tryz.func158,Tryz.ntmps158;go_wp2_with (go_at_call 178;refine HK.out.mono ?_;rintro e w' ⟨rfl,rfl⟩);go_ret;exact⟨rfl,rfl⟩
theorem own_drop {w:World} {e:TypeId} {n:Nat} {v:Value} {xs:List Value} (h:w.ownsRow 0 e 1 v n xs) (hn:0<n):∃ g cap,v=.slice (some ⟨g,0,none⟩) n cap∧n≤cap∧cap≤9223372036854775807∧w.ownsRow 0 e 1 (.slice (some ⟨g,0,none⟩) (n - 1) cap) (n - 1) xs.dropLast∧(∀ j u,xs[j]? =some u→w.cell? ⟨g,j,none⟩=some u):=by
 have hc:=fun g hg=>h.cells (g:=g) hg
 rcases h.2 with ⟨rfl,h0⟩|⟨g,cap,cur,rfl,hb,hg,hnc,hcm,hcs,htake⟩
 · omega
 · have hcm':=hcm
   unfold maxLen at hcm';refine⟨g,cap,rfl,hnc,hcm',⟨by rw[List.length_dropLast,h.1];omega,.inr ⟨g,cap,cur,rfl,hb,hg,by omega,hcm,hcs,?_⟩⟩,fun j u hj=>?_⟩
   · rw[←htake,List.dropLast_eq_take,List.take_take]
     congr 1
     have:(cur.toList.take (n*1)).length=n:=by rw[htake,h.1];omega
     omega
   · have:=hc g rfl j u hj
     have hadd:(⟨g,0,none⟩:Addr).add j=⟨g,j,none⟩:=by unfold Addr.add;split<;>simp_all
     rw[hadd] at this;exact this
def takeVal:Option Nat→Value
 |some l=>.tuple #[zu (l:Int),zi 0]
 |none=>.tuple #[zu 0,zi 15]
theorem take_none {σ:St} (h:σ.list.free.getLast? =none):σ.take=(σ.list,none):=by unfold St.take;simp only[h]
theorem take_some {σ:St} {i:Nat} (h:σ.list.free.getLast? =some i):σ.take=({σ.list with free:=σ.list.free.dropLast,tags:=σ.list.tags.set i ((σ.list.tags.getD i (0,false)).1,true)},some (σ.list.linkAt i)):=by unfold St.take;simp only[h]
theorem take_any (hR:Rep A σ w) (hm:A.mp=0) (hn:σ.free.length<100000) (hfree:∀ i∈σ.list.free,i<σ.slots) (htag:∀ i,i<σ.slots→(σ.tags.getD i (0,false)).1≤65535):
 Calls Tryz.prog 167 #[.pointer (some ⟨A.bp,0,none⟩)] w fun e w'=>
  e=.returned (takeVal σ.take.2)∧∃ A',PoolOnly A A'∧Rep A' σ.take.1 w'∧Grow A.L w A'.L w':=by
 have hl:=list_any hR hm hn;have hsl:σ.list.slots=σ.slots:=by unfold St.list;split<;>rfl
 have htg:σ.list.tags=σ.tags:=by unfold St.list;split<;>rfl
 have hb1:σ.list.free.length<200000:=by
  have:=hR.sl;unfold St.list
  split
  · omega
  · simp;omega
 have HL:=zH hl;have HF:=zH (zA hfree (zA htag (zA hsl htg)));have HS:=zH hR.sl;clear hR hm hn hfree htag hl hsl htg
 cases hlast:σ.list.free.getLast? with
 |none=>
  rw[take_none hlast];generalize σ.list=σ1 at*;have hnil:σ1.free=[]:=by simpa using hlast
  have HN:=zH hnil;clear hlast hnil;go_enter Tryz.func167,Tryz.ntmps167;go_wp2_with (go_at_call 137;refine HL.out.mono ?_;rintro e w1 ⟨rfl,A1,⟨⟨L1,v1,m1,rfl⟩,hm1⟩,q1,q2⟩;have p2:w1.cell? ⟨A.bp,2,none⟩=some v1:=q1.pool 2 rfl;have hown:=free_row q1;rw[HN.out] at hown;obtain⟨av,capv,hv,_⟩:=Ow.own_form hown;have hv':v1=.slice av 0 capv:=hv;rw[hv'] at p2;have HQ:=zH (zA q1 (zA q2 hm1));clear q1 q2 hown hv hv' hm1)
  go_ret2
  exact⟨rfl,_,⟨⟨_,_,_,rfl⟩,HQ.out.2.2⟩,HQ.out.1,HQ.out.2.1⟩
 |some i=>
  rw[take_some hlast];generalize σ.list=σ1 at*;have hmem:i∈σ1.free:=List.mem_of_getLast? hlast;have hne:σ1.free≠[]:=by rintro h;rw[h] at hmem;cases hmem
  have hpos:0<σ1.free.length:=List.length_pos_iff.2 hne;have hat:(σ1.free.map i64)[σ1.free.length - 1]? =some (zi (i:Int)):=by
   rw[List.getElem?_map,←List.getLast?_eq_getElem?,hlast];rfl
  have hdrop:(σ1.free.map i64).dropLast=σ1.free.dropLast.map i64:=List.map_dropLast.symm;have hdl:σ1.free.dropLast.length=σ1.free.length - 1:=by simp
  have hi:i<σ.slots:=HF.out.1 i hmem;have htt:(σ1.tags.getD i (0,false)).1≤65535:=by rw[HF.out.2.2.2];exact HF.out.2.1 i hi
  have hs1:σ1.slots=σ.slots:=HF.out.2.2.1;have FACT:Hid (∀ L1 v1 m1 w1,Rep {A with L:=L1,vfree:=v1,mp:=m1} σ1 w1→∃ g cap,v1=.slice (some ⟨g,0,none⟩) σ1.free.length cap∧σ1.free.length≤cap∧cap≤9223372036854775807∧w1.cell? ⟨A.bp,2,none⟩=some (.slice (some ⟨g,0,none⟩) σ1.free.length cap)∧w1.frozen? ⟨A.bp,2,none⟩=false∧w1.cell? ⟨g,σ1.free.length - 1,none⟩=some (zi (i:Int))∧w1.cell? ⟨A.bp,0,none⟩=some (.slice (some ⟨A.bs,0,none⟩) σ.slots σ.slots)):=by
   intro L1 v1 m1 w1 q1;obtain⟨g,cap,e1,e2,e3,e4,e5⟩:=own_drop (free_row q1) hpos;have e1':v1=.slice (some ⟨g,0,none⟩) σ1.free.length cap:=e1;refine⟨g,cap,e1',e2,e3,by rw[←e1'];exact q1.pool 2 rfl,q1.poolF 2,e5 _ _ hat,by rw[←hs1];exact q1.pool 0 rfl⟩
  have FIN:Hid (∀ L1 v1 m1 w1 g cap,Rep {A with L:=L1,vfree:=v1,mp:=m1} σ1 w1→v1=.slice (some ⟨g,0,none⟩) σ1.free.length cap→∀ w2,w2=w1.setCell ⟨A.bp,2,none⟩ (.slice (some ⟨g,0,none⟩) (σ1.free.length - 1) cap)→Rep {A with L:=L1,vfree:=.slice (some ⟨g,0,none⟩) (σ1.free.length - 1) cap,mp:=m1} {σ1 with free:=σ1.free.dropLast} w2∧Grow L1 w1 L1 w2):=by
   rintro L1 v1 m1 w1 g cap q1 rfl w2 rfl;obtain⟨g',cap',e1,e2,e3,e4,e5⟩:=own_drop (free_row q1) hpos;simp only[Value.slice.injEq,Option.some.injEq,Addr.mk.injEq,and_true,true_and] at e1;obtain⟨rfl,rfl⟩:=e1;exact q1.freeOff σ1.free.dropLast _ (by rw[hdl,←hdrop];exact e4) rfl
  have hlk:({σ1 with free:=σ1.free.dropLast,tags:=σ1.tags.set i ((σ1.tags.getD i (0,false)).1,true)}:St).linkAt i=σ1.linkAt i∧(({σ1 with free:=σ1.free.dropLast,tags:=σ1.tags.set i ((σ1.tags.getD i (0,false)).1,true)}:St).tags.getD i (0,false)).1=(σ1.tags.getD i (0,false)).1:=by
   by_cases hlt:i<σ1.tags.length
   · unfold St.linkAt
     simp only[getD_set _ _ _ _ _ hlt,if_pos];exact⟨trivial,trivial⟩
   · unfold St.linkAt
     simp[List.set_eq_of_length_le (by omega:σ1.tags.length≤i)]
  have AFTER : Hid (∀ L1 m1 w1 g cap, Rep { A with L := L1, vfree := .slice (some ⟨g, 0, none⟩) σ1.free.length cap, mp := m1 } σ1 w1 →
      (w1.setCell ⟨A.bp,2,none⟩ (.slice (some ⟨g,0,none⟩) (σ1.free.length - 1) cap)).cell? ⟨A.bs,i*2+1,none⟩=some (.bool (σ1.tags.getD i (0,false)).2)∧(w1.setCell ⟨A.bp,2,none⟩ (.slice (some ⟨g,0,none⟩) (σ1.free.length - 1) cap)).frozen? ⟨A.bs,i*2+1,none⟩=false∧
      Rep {A with L:=L1,vfree:=.slice (some ⟨g,0,none⟩) (σ1.free.length - 1) cap,mp:=m1} {σ1 with free:=σ1.free.dropLast,tags:=σ1.tags.set i ((σ1.tags.getD i (0,false)).1,true)} ((w1.setCell ⟨A.bp,2,none⟩ (.slice (some ⟨g,0,none⟩) (σ1.free.length - 1) cap)).setCell ⟨A.bs,i*2+1,none⟩ (.bool true))∧
      Grow L1 w1 L1 ((w1.setCell ⟨A.bp,2,none⟩ (.slice (some ⟨g,0,none⟩) (σ1.free.length - 1) cap)).setCell ⟨A.bs,i*2+1,none⟩ (.bool true))∧
      Calls Tryz.prog 158 #[.pointer (some ⟨A.bp,0,none⟩),zi (i:Int)] ((w1.setCell ⟨A.bp,2,none⟩ (.slice (some ⟨g,0,none⟩) (σ1.free.length - 1) cap)).setCell ⟨A.bs,i*2+1,none⟩ (.bool true)) fun e w'=>e=.returned (zu ((σ1.linkAt i:Nat):Int))∧((w1.setCell ⟨A.bp,2,none⟩ (.slice (some ⟨g,0,none⟩) (σ1.free.length - 1) cap)).setCell ⟨A.bs,i*2+1,none⟩ (.bool true))=w'):=by
   rw[show i*2+1=2*i+1 by omega];intro L1 m1 w1 g cap q1;obtain⟨r2,g2⟩:=FIN.out L1 _ m1 w1 g cap q1 rfl _ rfl;have hi':i<({σ1 with free:=σ1.free.dropLast}:St).slots:=by show i<σ1.slots;omega
   obtain⟨r3,g3⟩:=r2.takenSet hi' true;have hlink:=link_any r3 i hi' (by rw[show (({σ1 with free:=σ1.free.dropLast,tags:=σ1.tags.set i ((σ1.tags.getD i (0,false)).1,true)}:St).tags.getD i (0,false)).1=_ from hlk.2];exact htt);rw[show _=σ1.linkAt i from hlk.1] at hlink;exact⟨(r2.tag hi').2,r2.tagF _,r3,g2.trans g3,hlink⟩
  have b1:(0:Int)≤(i:Int):=by omega
  have b2:(i:Int)<(σ.slots:Int):=by omega
  have d1:((σ1.free.length:Int)==0)=false:=by simp;omega
  have d2:((σ1.free.length:Int)=0)=False:=by simp;omega
  have d3:(σ1.free.length==0)=false:=by simp;omega
  have n1:(1:Int)≤(σ1.free.length:Int):=by omega
  have n2:(σ1.free.length:Int)<200000:=by omega
  have n3:((σ1.free.length:Int) - 1).toNat=σ1.free.length - 1:=by omega
  have n4:IntKind.i64.wrap ((σ1.free.length:Int) - 1)=(σ1.free.length:Int) - 1:=by rw[IntKind.wrap_i64];omega
  clear hlast hmem hne hat hdrop hdl hi htt hs1 hlk hb1 hpos FIN;generalize hlen:σ1.free.length=n at*;have n5:(n:Int) - 1<(n:Int):=by omega
  have n6:(0:Int)≤(n:Int) - 1:=by omega
  clear hlen n2;go_enter Tryz.func167,Tryz.ntmps167;go_wp2_with (first|(go_at_call 137;refine HL.out.mono ?_;rintro e w1 ⟨rfl,A1,⟨⟨L1,v1,m1,rfl⟩,hm1⟩,q1,q2⟩;obtain⟨g,cap,rfl,f1,f2,p2,z2,pc,p0⟩:=FACT.out L1 v1 m1 w1 q1;obtain⟨t1,z1,r3,g3,hlink⟩:=AFTER.out L1 m1 w1 g cap q1;have HLK:=zH hlink;have HQ:=zH (zA r3 (zA (q2.trans g3) hm1));clear q1 q2 r3 g3 hm1 hlink)|(go_at_call 158;refine HLK.out.mono ?_;rintro e w' ⟨rfl,rfl⟩))
  go_ret2
  exact⟨rfl,_,⟨⟨_,_,_,rfl⟩,HQ.out.2.2⟩,HQ.out.1,HQ.out.2.1⟩
structure VL (σ:St) (l:Nat):Prop where
 lo:1≤l % 131072
 hi:l % 131072≤σ.slots
 u:l<18446744073709551616
theorem slotOf_lt {σ:St} {l:Nat} (h:VL σ l):slotOf l<σ.slots:=by have:=h.lo;have:=h.hi;unfold slotOf;omega
theorem k_get (hR:Rep A σ w) (s:Nat) (t:Txn) (ht:σ.txns.getD s none=some t) (key link b0 b1 b2 b3:Nat)
 (B0:Box A.L w b0 (.pointer (some ⟨A.bt s,0,none⟩))) (B1:Box A.L w b1 (zi (key:Int))) (B2:Box A.L w b2 (.pointer (some ⟨A.be,0,none⟩))) (B3:Box A.L w b3 (.pointer (some ⟨A.bc s,0,none⟩)))
 (at_:Nat) (hl:link=0∨VL σ link) (hn:t.reads.length<1000000):
 Calls Tryz.prog 115 #[zu (link:Int),.pointer (some ⟨b0,0,none⟩),.pointer (some ⟨b1,0,none⟩),.pointer (some ⟨b2,0,none⟩),.pointer (some ⟨b3,0,none⟩)] w (Tells A w s (σ.thn s ⟨key,at_,.get⟩ link)):=by
 have c0:=B0.cell;have c1:=B1.cell;have c2:=B2.cell;have c3:=B3.cell
 by_cases h0:link=0
 · have hr:=read_any hR s t ht key link false hn
   have e0:(link !=0)=false:=by simpa using h0
   have e1:σ.thn s ⟨key,at_,.get⟩ link=(σ.read s key link false,.fin {e:=11}):=by simp only[St.thn,e0,if_pos h0]
   rw[e1];have d1:((link:Int)==0)=true:=by simpa using h0
   have d2:((link:Int) !=0)=false:=by simpa using h0
   have d3:((link:Int)=0)=True:=by simpa using h0
   have HR:=zH hr;have HB:=zH (zA B2 B3);clear hR ht hl hn hr e1 e0 h0 B0 B1 B2 B3;go_enter Tryz.func115,Tryz.ntmps115;go_wp2_with (first|(go_at_call 116;refine HR.out.mono ?_;rintro e w1 ⟨rfl,A1,q1,q2,q3,q4,q5⟩;have c2:=(HB.out.1.grow q2).cell;have c3:=(HB.out.2.grow q2).cell;have HE:=zH (ends_at q1 s {e:=11} 11 0 0 0 (.slice none 0 0) rfl (.inr ⟨rfl,rfl⟩));rw[q3.be,q3.bc] at HE;have HQ:=zH (zA q2 q3);clear q1 q2 q3 q4 q5)|(go_at_call 113;refine HE.out.mono ?_;rintro e w2 ⟨A2,v,rfl,p1,p2,p3,p4⟩));go_ret;exact⟨A2,v,rfl,p1,HQ.out.1.trans p2,HQ.out.2.trans p3,p4⟩
 · have hv:=hl.resolve_left h0
   have hr:=read_any hR s t ht key link true hn;have e0:(link !=0)=true:=by simpa using h0
   have e1:σ.thn s ⟨key,at_,.get⟩ link=(σ.read s key link true,.fin {value:=σ.valueOf link}):=by
    simp only[St.thn,e0,if_neg h0];rfl
   rw[e1];have d1:((link:Int)==0)=false:=by simpa using h0
   have d2:((link:Int) !=0)=true:=by simpa using h0
   have d3:((link:Int)=0)=False:=by simpa using h0
   have HR:=zH hr;have HB:=zH (zA B2 (zA B3 hv));have HT:=zH ht;have H0:=zH hR.sl;clear hR ht hl hn hr e1 B0 B1 B2 B3 hv e0 h0;go_enter Tryz.func115,Tryz.ntmps115;go_wp2_with (go_at_call 116;refine HR.out.mono ?_;rintro e w1 ⟨rfl,A1,q1,q2,q3,q4,q5⟩);obtain⟨B2,B3,hv⟩:=HB.out;have c2:=(B2.grow q2).cell;have c3:=(B3.grow q2).cell;have hd:=(data_any q1.drew link hv.lo hv.hi hv.u).mono fun e w' h=>(⟨h.1,h.2.symm⟩:_∧w'=w1.drew)
   have hval:=(q1.drew.val (show slotOf link<(σ.read s key link true).slots from slotOf_lt (σ:=σ) hv)).2;have he:=ends_at q1.drew s {value:=σ.valueOf link} 0 (σ.valueOf link:Int) 0 0 (.slice none 0 0) rfl (.inr ⟨rfl,rfl⟩);rw[q3.be,q3.bc] at he;rw[q3.be] at hd;have HE:=zH he;have HD:=zH hd;have HQ:=zH (zA q2 q3);have e3:(((σ.read s key link true).values.getD (slotOf link) (0,0)).2:Int)=(σ.valueOf link:Int):=rfl;rw[e3] at hval;clear he q1 q2 q3 q4 q5 B2 B3 hd hv e3;generalize A1.bv=bv at*;go_wp2_with fail;refine wp_region_still_tail 9 (by kernel_rfl) (by kernel_rfl) ?_;simp only[zta,ztb,ztc,ztd]
   repeat still_step
   still_call HD.out
   repeat still_step
   refine wpStill_nil ?_;change wpList _ _ _ _ _ w1.drew;have HG:Hid (Grow A1.L w1 A1.L w1.drew):=Grow.drew _ _;generalize w1.drew=w3 at*;go_wp2_with (go_at_call 113;refine HE.out.mono ?_;rintro e w2 ⟨A2,v,rfl,p1,p2,p3,p4⟩);go_ret;exact⟨A2,v,rfl,p1,(HQ.out.1.trans HG.out).trans p2,HQ.out.2.trans p3,p4⟩
theorem fresh_0 (hR:Rep A σ w) (s:Nat):
 Calls Tryz.prog 131 #[.pointer (some ⟨A.be,0,none⟩),.pointer (some ⟨A.bt s,0,none⟩),.pointer (some ⟨A.bc s,0,none⟩),zu 0] w (Tells A w s (σ,.fresh 0)):=fresh_any hR s 0
theorem k_change (hR:Rep A σ w) (s:Nat) (t:Txn) (ht:σ.txns.getD s none=some t) (c:Cal) (hc:σ.calls.getD s none=some c) (key link b0 b1 b2 b3:Nat) (hk:c.op.key=key)
 (B0:Box A.L w b0 (.pointer (some ⟨A.bc s,0,none⟩))) (B1:Box A.L w b1 (.pointer (some ⟨A.bt s,0,none⟩))) (B2:Box A.L w b2 (zi (key:Int))) (B3:Box A.L w b3 (.pointer (some ⟨A.be,0,none⟩)))
 (at_:Nat) (hn:t.reads.length<1000000):
 Calls Tryz.prog 130 #[zu (link:Int),.pointer (some ⟨b0,0,none⟩),.pointer (some ⟨b1,0,none⟩),.pointer (some ⟨b2,0,none⟩),.pointer (some ⟨b3,0,none⟩)] w (Tells A w s (σ.thn s ⟨key,at_,.change⟩ link)):=by
 have c0:=B0.cell;have c1:=B1.cell;have c2:=B2.cell;have c3:=B3.cell;have k0:w.cell? ⟨A.bc s,0,none⟩=some (zi (c.op.kind:Int)):=hR.call hc 0 rfl;have hcg:=call_get hc;have hr:=read_any hR s t ht key link false hn;have HR:=zH hr;have HB:=zH (zA B0 (zA B1 (zA B2 B3)));have HX:=zH hR;have e0:σ.thn s ⟨key,at_,.change⟩ link=if link≠0∧c.op.kind=2 then (σ.read s key link false,.fin {e:=12}) else if link=0∧c.op.kind≠2 then (σ.read s key link false,.fin {e:=11}) else if link=0 then (σ,.fresh 0) else (σ,.own link):=by
  simp only[St.thn,hcg,hk]
 rw[e0];clear e0 hR ht hn hr B0 B1 B2 B3 hc hcg hk;generalize c.op.kind=kd at*
 by_cases h0:link=0
 · by_cases h2:kd=2
   · rw[if_neg (by omega),if_neg (by omega),if_pos h0]
     have d1:((link:Int)==0)=true:=by simpa using h0
     have d2:((link:Int) !=0)=false:=by simpa using h0
     have d3:((link:Int)=0)=True:=by simpa using h0
     have f1:((kd:Int)==2)=true:=by simp;omega
     have f2:((kd:Int) !=2)=false:=by simp;omega
     have f3:((kd:Int)=2)=True:=by simp;omega
     clear h0 h2;go_enter Tryz.func130,Tryz.ntmps130;go_wp2_with (go_at_call 131;refine (fresh_0 HX.out s).mono ?_;rintro e w2 ⟨A2,v,rfl,p1,p2,p3,p4⟩);go_ret;exact⟨A2,v,rfl,p1,p2,p3,p4⟩
   · rw[if_neg (by omega),if_pos (by omega)]
     have d1:((link:Int)==0)=true:=by simpa using h0
     have d2:((link:Int) !=0)=false:=by simpa using h0
     have d3:((link:Int)=0)=True:=by simpa using h0
     have f1:((kd:Int)==2)=false:=by simp;omega
     have f2:((kd:Int) !=2)=true:=by simp;omega
     have f3:((kd:Int)=2)=False:=by simp;omega
     clear h0 h2;go_enter Tryz.func130,Tryz.ntmps130;go_wp2_with (first|(go_at_call 116;refine HR.out.mono ?_;rintro e w1 ⟨rfl,A1,q1,q2,q3,q4,q5⟩;have c0:=(HB.out.1.grow q2).cell;have c3:=(HB.out.2.2.2.grow q2).cell;have HE:=zH (ends_at q1 s {e:=11} 11 0 0 0 (.slice none 0 0) rfl (.inr ⟨rfl,rfl⟩));rw[q3.be,q3.bc] at HE;have HQ:=zH (zA q2 q3);clear q1 q2 q3 q4 q5)|(go_at_call 113;refine HE.out.mono ?_;rintro e w2 ⟨A2,v,rfl,p1,p2,p3,p4⟩));go_ret;exact⟨A2,v,rfl,p1,HQ.out.1.trans p2,HQ.out.2.trans p3,p4⟩
 · by_cases h2:kd=2
   · rw[if_pos (by omega)]
     have d1:((link:Int)==0)=false:=by simpa using h0
     have d2:((link:Int) !=0)=true:=by simpa using h0
     have d3:((link:Int)=0)=False:=by simpa using h0
     have f1:((kd:Int)==2)=true:=by simp;omega
     have f2:((kd:Int) !=2)=false:=by simp;omega
     have f3:((kd:Int)=2)=True:=by simp;omega
     clear h0 h2;go_enter Tryz.func130,Tryz.ntmps130;go_wp2_with (first|(go_at_call 116;refine HR.out.mono ?_;rintro e w1 ⟨rfl,A1,q1,q2,q3,q4,q5⟩;have c0:=(HB.out.1.grow q2).cell;have c3:=(HB.out.2.2.2.grow q2).cell;have HE:=zH (ends_at q1 s {e:=12} 12 0 0 0 (.slice none 0 0) rfl (.inr ⟨rfl,rfl⟩));rw[q3.be,q3.bc] at HE;have HQ:=zH (zA q2 q3);clear q1 q2 q3 q4 q5)|(go_at_call 113;refine HE.out.mono ?_;rintro e w2 ⟨A2,v,rfl,p1,p2,p3,p4⟩));go_ret;exact⟨A2,v,rfl,p1,HQ.out.1.trans p2,HQ.out.2.trans p3,p4⟩
   · rw[if_neg (by omega),if_neg (by omega),if_neg h0]
     have d1:((link:Int)==0)=false:=by simpa using h0
     have d2:((link:Int) !=0)=true:=by simpa using h0
     have d3:((link:Int)=0)=False:=by simpa using h0
     have f1:((kd:Int)==2)=false:=by simp;omega
     have f2:((kd:Int) !=2)=true:=by simp;omega
     have f3:((kd:Int)=2)=False:=by simp;omega
     clear h0 h2;go_enter Tryz.func130,Tryz.ntmps130;go_wp2_with (go_at_call 132;refine (own_any HX.out s link).mono ?_;rintro e w2 ⟨A2,v,rfl,p1,p2,p3,p4⟩);go_ret;exact⟨A2,v,rfl,p1,p2,p3,p4⟩
theorem slot_at (l:Nat) (k:Int) (n:Nat) (hk:(n:Int)=k) (h1:1≤l % 131072) (h2:l % 131072≤256) (hl:l<18446744073709551616) (hn:n≤2) (w:World):
 Calls Tryz.prog 85 #[zu (l:Int),zi k] w fun e w'=>e=.returned (zi ((wslot l n:Nat):Int))∧w=w':=by subst hk;exact slot_any l n h1 h2 hl hn w
theorem wslot_lt (hR:Rep A σ w) {l k:Nat} (h1:1≤l % 131072) (h2:l % 131072≤σ.slots) (hk:k≤2):wslot l k<σ.words.length:=by rw[hR.nw];unfold wslot slotOf;omega
theorem k_visit (hR:Rep A σ w) (s:Nat) (t:Txn) (ht:σ.txns.getD s none=some t) (hu:Hunt) (link b0 b1:Nat) (B0:HuntBox (kp A σ s) A.L w b0 hu) (B1:Box A.L w b1 (zu (link:Int)))
 (h1:1≤link % 131072) (h2:link % 131072≤σ.slots) (hl:link<18446744073709551616) (hx:σ.word (wslot link 0)<18446744073709551616) (hc:σ.count<4000000000000000000):
 Calls Tryz.prog 182 #[.pointer (some ⟨b0,0,none⟩),.pointer (some ⟨b1,0,none⟩)] w (Ran A w s (σ.run s (.visit hu link))):=by
 have hsl:=hR.sl;obtain⟨bh,X0,vt,TT,fh,hth⟩:=B0;have c0:=X0.cell;have c1:=B1.cell;have h0:w.cell? ⟨bh,0,none⟩=some (.pointer (some ⟨A.be,0,none⟩)):=fh.cell 0 rfl;have e2:=hR.z2;have HK:Hid (∀ w',Kp A w w'→w'.cell? ⟨b0,0,none⟩=some (.pointer (some ⟨bh,0,none⟩))∧w'.cell? ⟨b1,0,none⟩=some (zu (link:Int))∧w'.cell? ⟨bh,0,none⟩=some (.pointer (some ⟨A.be,0,none⟩))∧w'.cell? ⟨A.be,2,none⟩=some (.pointer (some ⟨A.ba,0,none⟩))):=by
  obtain⟨_,x0⟩:=X0;obtain⟨_,x1⟩:=B1;exact fun w' k=>⟨k.fix _ _ _ x0.1 c0,k.fix _ _ _ x1.1 c1,k.fix _ _ _ fh.1 h0,k.ea⟩
 have HS:=zH (slot_at link 0 0 rfl h1 (by omega) hl (by omega));have HL:=zH (load_any hR.drew (wslot link 0) (wslot_lt hR h1 h2 (by omega)) hc);have HG:=zG A.L w;have hh0:HuntAt (kp A σ s) A.L w bh hu:=⟨vt,TT,fh,hth⟩
 have HB:Hid (∀ w1,Rep A σ.tick w1→Grow A.L w A.L w1→Calls Tryz.prog 183 #[.pointer (some ⟨bh,0,none⟩),zu (link:Int),zu (σ.word (wslot link 0):Int)] w1 (Tells A w1 s (σ.tick,σ.beginK s hu link (σ.word (wslot link 0))))):=
  fun w1 r g=>begin_any r s t ht bh hu (hh0.grow g) link _ hx
 clear hR ht X0 B1 fh hth h1 h2 hl hx hc hsl hh0;go_enter Tryz.func182,Tryz.ntmps182;go_wp2_with fail
 go_region_held3 (fun w'=>w'.cell? ⟨b0,0,none⟩=some (.pointer (some ⟨bh,0,none⟩))∧w'.cell? ⟨b1,0,none⟩=some (zu (link:Int))∧w'.cell? ⟨bh,0,none⟩=some (.pointer (some ⟨A.be,0,none⟩))∧w'.cell? ⟨A.be,2,none⟩=some (.pointer (some ⟨A.ba,0,none⟩)))
  (first|exact⟨c0,c1,h0,e2⟩|assumption|exact HK.out _ (Kp.of (by assumption) (by assumption) (by assumption)))
  (first|(go_at_call 85;refine (HS.out _).mono ?_;rintro e w' ⟨rfl,rfl⟩)|(go_at_call 42;refine HL.out.mono ?_;rintro e w1 ⟨rfl,q1,q2⟩;have q4:=HG.out.trans q2;have q3:=Stay.refl A s;clear q2)|(go_at_call 183;refine (HB.out _ (by assumption) (by assumption)).mono ?_;rintro e w2 ⟨A',v,rfl,p1,p2,p3,p4⟩;have p5:=(‹Grow A.L w A.L _›).trans p2))
 go_wp2_with fail;go_ret;exact⟨A',_,rfl,p1,p5,p3,p4⟩
theorem flip {P:Program} {f:FuncId} {args:Array Value} {w:World} {v:Value} (h:Calls P f args w fun e w'=>e=.returned v∧w=w'):Calls P f args w fun e w'=>e=.returned v∧w'=w:=h.mono fun _ _ h=>⟨h.1,h.2.symm⟩
theorem forever_still (w:World):Calls Tryz.prog 127 #[] w fun e w'=>e=.returned (zu ((ever:Nat):Int))∧w'=w:=flip (Word.forever_any w)
theorem k_slotB (hR:Rep A σ w) (s:Nat) (t:Txn) (ht:σ.txns.getD s none=some t) (b0 b1 b2 b3 b4 b5:Nat) (x:Bool) (link head:Nat)
 (B0:Box A.L w b0 (.pointer (some ⟨A.be,0,none⟩))) (B1:Box A.L w b1 (zu (link:Int))) (B2:Box A.L w b2 (.pointer (some ⟨A.bt s,0,none⟩))) (B3:Box A.L w b3 ((kp A σ s).xo x)) (B4:Box A.L w b4 (.pointer (some ⟨A.bc s,0,none⟩))) (B5:HeadBox A.L w b5 x head)
 (hc:σ.count<4000000000000000000) (hv:VL σ link) (h1:1≤t.id) (h2:t.id≤65535):
 Calls Tryz.prog 168 #[.pointer (some ⟨b0,0,none⟩),.pointer (some ⟨b1,0,none⟩),.pointer (some ⟨b2,0,none⟩),.pointer (some ⟨b3,0,none⟩),.pointer (some ⟨b4,0,none⟩),.pointer (some ⟨b5,0,none⟩)] w (Ran A w s (σ.run s (.slotB x link head))):=by
 have c0:=B0.cell;have c1:=B1.cell;have c2:=B2.cell;have c3:=B3.cell;have c4:=B4.cell;have e2:=hR.z2;have hsl:=hR.sl;have G0:Grow A.L w A.L w.drew:=Grow.drew _ _;have HS:=zH (flip (slot_at link 0 0 rfl hv.lo (by have:=hv.hi;omega) hv.u (by omega) w.drew));have HM:=zH (flip (mine_any hR.drew s t ht h1 h2));have HL:=zH (store_any hR.drew (wslot link 0) (mine t) (wslot_lt hR hv.lo hv.hi (by omega)) hc);have hrun:σ.run s (.slotB x link head)=(σ.put (wslot link 0) (mine t),some (.slotE x link head)):=by simp only[St.run,txn_get ht]
 rw[hrun];clear hrun ht hv h1 h2;have HG:=zH G0;have HB:=zH ((zA B0 (zA B1 (zA B2 (zA B3 (zA B4 B5))))));clear hR hsl hc G0 B0 B1 B2 B3 B4 B5;go_enter Tryz.func168,Tryz.ntmps168;go_wp2_with fail;refine wp_region_still_tail 8 (by kernel_rfl) (by kernel_rfl) ?_;simp only[zta,ztb,ztc,ztd]
 repeat still_step
 still_call HS.out
 repeat still_step
 still_call HM.out
 repeat still_step
 refine wpStill_nil ?_;change wpList _ _ _ _ _ w.drew;generalize w.drew=wd at*;go_wp2_with (go_at_call 47;refine HL.out.mono ?_;rintro e w1 ⟨rfl,q1,q2⟩);go_ret;obtain⟨B0,B1,B2,B3,B4,B5⟩:=HB.out;exact⟨A,_,rfl,q1,HG.out.trans q2,Stay.refl _ _,_,_,_,_,_,_,rfl,B0.grow (HG.out.trans q2),B1.grow (HG.out.trans q2),B3.grow (HG.out.trans q2),B2.grow (HG.out.trans q2),B4.grow (HG.out.trans q2),B5.grow (HG.out.trans q2)⟩
theorem k_push (hR:Rep A σ w) (s:Nat) (t:Txn) (ht:σ.txns.getD s none=some t) (b0 b1 b2 b3 b4:Nat) (link head:Nat)
 (B0:Box A.L w b0 (.pointer (some ⟨A.be,0,none⟩))) (B1:Box A.L w b1 (zu (link:Int))) (B2:Box A.L w b2 (zu (head:Int))) (B3:Box A.L w b3 (.pointer (some ⟨A.bc s,0,none⟩))) (B4:Box A.L w b4 (.pointer (some ⟨A.bt s,0,none⟩)))
 (hc:σ.count<4000000000000000000) (hv:VL σ link):
 Calls Tryz.prog 190 #[.pointer (some ⟨b0,0,none⟩),.pointer (some ⟨b1,0,none⟩),.pointer (some ⟨b2,0,none⟩),.pointer (some ⟨b3,0,none⟩),.pointer (some ⟨b4,0,none⟩)] w (Ran A w s (σ.run s (.push link head))):=by
 have c0:=B0.cell;have c1:=B1.cell;have c2:=B2.cell;have c3:=B3.cell;have c4:=B4.cell;have e2:=hR.z2;have hsl:=hR.sl;have G0:Grow A.L w A.L w.drew:=Grow.drew _ _;have HS:=zH (flip (slot_at link 2 2 rfl hv.lo (by have:=hv.hi;omega) hv.u (by omega) w.drew));have HL:=zH (store_any hR.drew (wslot link 2) head (wslot_lt hR hv.lo hv.hi (by omega)) hc);have hrun:σ.run s (.push link head)=(σ.put (wslot link 2) head,some (.pushC link head)):=rfl;rw[hrun];clear hrun ht hv;have HG:=zH G0;have HB:=zH ((zA B0 (zA B1 (zA B2 (zA B3 B4)))));clear hR hsl hc G0 B0 B1 B2 B3 B4;go_enter Tryz.func190,Tryz.ntmps190;go_wp2_with fail;refine wp_region_still_tail 7 (by kernel_rfl) (by kernel_rfl) ?_;simp only[zta,ztb,ztc,ztd]
 repeat still_step
 still_call HS.out
 repeat still_step
 refine wpStill_nil ?_;change wpList _ _ _ _ _ w.drew;generalize w.drew=wd at*;go_wp2_with (go_at_call 47;refine HL.out.mono ?_;rintro e w1 ⟨rfl,q1,q2⟩);go_ret;obtain⟨B0,B1,B2,B3,B4⟩:=HB.out;exact⟨A,_,rfl,q1,HG.out.trans q2,Stay.refl _ _,_,_,_,_,_,rfl,B0.grow (HG.out.trans q2),B3.grow (HG.out.trans q2),B2.grow (HG.out.trans q2),B1.grow (HG.out.trans q2),B4.grow (HG.out.trans q2)⟩
theorem k_overN (hR:Rep A σ w) (s:Nat) (t:Txn) (ht:σ.txns.getD s none=some t) (b0 b1 b2 b3 b4 b5:Nat) (link head:Nat)
 (B0:Box A.L w b0 (.pointer (some ⟨A.be,0,none⟩))) (B1:Box A.L w b1 (zu (link:Int))) (B2:Box A.L w b2 (zu (head:Int))) (B3:Box A.L w b3 (.pointer (some ⟨A.bc s,0,none⟩))) (B4:Box A.L w b4 (.pointer (some ⟨A.bt s,0,none⟩))) (B5:Box A.L w b5 ((kp A σ s).xo true))
 (hc:σ.count<4000000000000000000) (hv:VL σ link):
 Calls Tryz.prog 193 #[.pointer (some ⟨b0,0,none⟩),.pointer (some ⟨b1,0,none⟩),.pointer (some ⟨b2,0,none⟩),.pointer (some ⟨b3,0,none⟩),.pointer (some ⟨b4,0,none⟩),.pointer (some ⟨b5,0,none⟩)] w (Ran A w s (σ.run s (.overN link head))):=by
 have c0:=B0.cell;have c1:=B1.cell;have c2:=B2.cell;have c3:=B3.cell;have c4:=B4.cell;have c5:=B5.cell;have e2:=hR.z2;have hsl:=hR.sl;have G0:Grow A.L w A.L w.drew:=Grow.drew _ _;have HS:=zH (flip (slot_at link 2 2 rfl hv.lo (by have:=hv.hi;omega) hv.u (by omega) w.drew));have HL:=zH (store_any hR.drew (wslot link 2) head (wslot_lt hR hv.lo hv.hi (by omega)) hc);have hrun:σ.run s (.overN link head)=(σ.put (wslot link 2) head,some (.overC link head)):=rfl;rw[hrun];clear hrun ht hv;have HG:=zH G0;have HB:=zH ((zA B0 (zA B1 (zA B2 (zA B3 (zA B4 B5))))));clear hR hsl hc G0 B0 B1 B2 B3 B4 B5;go_enter Tryz.func193,Tryz.ntmps193;go_wp2_with fail;refine wp_region_still_tail 7 (by kernel_rfl) (by kernel_rfl) ?_;simp only[zta,ztb,ztc,ztd]
 repeat still_step
 still_call HS.out
 repeat still_step
 refine wpStill_nil ?_;change wpList _ _ _ _ _ w.drew;generalize w.drew=wd at*;go_wp2_with (go_at_call 47;refine HL.out.mono ?_;rintro e w1 ⟨rfl,q1,q2⟩);go_ret;obtain⟨B0,B1,B2,B3,B4,B5⟩:=HB.out;exact⟨A,_,rfl,q1,HG.out.trans q2,Stay.refl _ _,_,_,_,_,_,_,rfl,B0.grow (HG.out.trans q2),B3.grow (HG.out.trans q2),B2.grow (HG.out.trans q2),B1.grow (HG.out.trans q2),B4.grow (HG.out.trans q2),B5.grow (HG.out.trans q2)⟩
theorem Grow.setNew {L L':Lab} {w w':World} (g:Grow L w L' w') {a:Addr} (h:w.heap.size≤a.block) (v:Value):Grow L w L' (w'.setCell a v):=
 ⟨g.os,g.tape,g.output,by simpa [World.setCell] using g.size,fun b hb hl=>(Below.heap_setCell _ _ _ _ (by omega)).trans (g.block b hb hl),g.lab,fun b hb hl=>(Below.heap_setCell _ _ _ _ (by omega)).trans (g.keep b hb hl)⟩
theorem Rep.setNew {A A1:Book} {σ σ1:St} {w w1:World} (hR:Rep A σ w) (h1:Rep A1 σ1 w1) (g:Grow A.L w A1.L w1) (ht:σ1.tale=σ.tale) (hcs:A1.taleCs=A.taleCs) {a:Addr} (hb:w.heap.size≤a.block) (hl:A1.L a.block=none) (v:Value):
 Rep A1 σ1 (w1.setCell a v)∧Grow A.L w A1.L (w1.setCell a v):=
 ⟨⟨h1.mem.setNone hl v,by rw[ht,hcs];exact hR.ev.grow (g.setNew hb v),h1.sl,h1.nw,h1.nt,h1.nv,h1.n8,h1.nc⟩,g.setNew hb v⟩
theorem Fix.setOther {L:Lab} {w:World} {b:Nat} {o:Obj} (h:Fix L w b o) {a:Addr} (hne:b≠a.block) (v:Value):Fix L (w.setCell a v) b o:=⟨h.1,(Below.heap_setCell _ _ _ _ hne).trans h.2⟩
theorem Fix.setSame {L:Lab} {w:World} {b:Nat} {u:Value} {T:TypeId} (h:Fix L w b (.cells #[u] T)) (v:Value):Fix L (w.setCell ⟨b,0,none⟩ v) b (.cells #[v] T):=by
 refine⟨h.1,?_⟩;have:=h.2;simp only[World.setCell,Array.getElem?_modify,this];simp
theorem Fix.frozen {L:Lab} {w:World} {b:Nat} {cs:Array Value} {T:TypeId} (h:Fix L w b (.cells cs T)) (i:Nat):w.frozen? ⟨b,i,none⟩=false:=by
 unfold World.frozen?
 simp only[h.2];simp
theorem take_VL {σ:St} {l:Nat} (hfree:∀ i∈σ.list.free,i<σ.slots) (hs:σ.slots≤256) (htag:∀ i,i<σ.slots→(σ.tags.getD i (0,false)).1≤65535) (h:σ.take.2=some l):VL σ.take.1 l∧σ.take.1.slots=σ.slots:=by
 have hsl:σ.list.slots=σ.slots:=by unfold St.list;split<;>rfl
 have htg:σ.list.tags=σ.tags:=by unfold St.list;split<;>rfl
 cases hlast:σ.list.free.getLast? with
 |none=>rw[take_none hlast] at h;cases h
 |some i=>
  rw[take_some hlast] at h ⊢;have hi:=hfree i (List.mem_of_getLast? hlast);have ht:=htag i hi;simp only[Option.some.injEq] at h;subst h;refine⟨⟨?_,?_,?_⟩,hsl⟩
  all_goals
   unfold St.linkAt linkOf;rw[htg]
   first|omega|(dsimp only;omega)
def _root_.Go.Proofs.YthicolbbmjfkfaaGreat.En.St.lay (σ:St) (s l:Nat):St:={σ with values:=σ.values.set (slotOf l) ((σ.c s).op.key,(σ.c s).op.value)}
theorem slot_zero_none {σ:St} {s:Nat} {x:Bool} {head:Nat} (h:σ.take.2=none):σ.slot s x 0 head=(σ.take.1,.abort 14 5):=by
 unfold St.slot;simp only[if_pos];generalize σ.take=p at *;obtain⟨a,b⟩:=p;simp only at h;subst h;rfl
theorem slot_zero_some {σ:St} {s:Nat} {x:Bool} {head l:Nat} (h:σ.take.2=some l):σ.slot s x 0 head=(σ.take.1.lay s l,.slotB x l head):=by
 unfold St.slot;simp only[if_pos];generalize σ.take=p at *;obtain⟨a,b⟩:=p;simp only at h;subst h;rfl
theorem slot_link {σ:St} {s:Nat} {x:Bool} {head l:Nat} (h:l≠0):σ.slot s x l head=(σ.lay s l,.slotB x l head):=by
 unfold St.slot;rw[if_neg h];rfl
theorem lay_any (hR:Rep A σ w) (s:Nat) (c:Cal) (hc:σ.calls.getD s none=some c) (l:Nat) (hv:VL σ l):
 w.there A.bv (2*slotOf l) 2∧Rep A (σ.lay s l) (w.setCells A.bv (2*slotOf l) [zi (c.op.key:Int),zi (c.op.value:Int)])∧Grow A.L w A.L (w.setCells A.bv (2*slotOf l) [zi (c.op.key:Int),zi (c.op.value:Int)]):=by
 obtain⟨r1,g1⟩:=hR.valLay (slotOf_lt hv) c.op.key c.op.value;refine⟨fun j hj=>⟨?_,hR.valF _⟩,by unfold St.lay;rw[call_get hc];exact r1,g1⟩
 match j,hj with
 |0,_=>rw[Nat.add_zero,(hR.val (slotOf_lt hv)).1];rfl
 |1,_=>rw[(hR.val (slotOf_lt hv)).2];rfl
theorem slot_tells (hR:Rep A σ w) (s:Nat) (c:Cal) (hc:σ.calls.getD s none=some c) (x:Bool) (link head:Nat) (hv:Value) (hh:FRow A.L w 1 hv (if x then [] else [u64 head])) (hv0:link=0∨VL σ link)
 (hm:A.mp=0) (hn:σ.free.length<100000) (hfree:∀ i∈σ.list.free,i<σ.slots) (htag:∀ i,i<σ.slots→(σ.tags.getD i (0,false)).1≤65535):
 Calls Tryz.prog 151 #[.pointer (some ⟨A.be,0,none⟩),.pointer (some ⟨A.bt s,0,none⟩),.pointer (some ⟨A.bc s,0,none⟩),(kp A σ s).xo x,zu (link:Int),hv] w (Tells A w s (σ.slot s x link head)):=by
 obtain⟨px,hx⟩:∃ px,(kp A σ s).xo x=.pointer px:=by unfold KP.xo;split<;>exact⟨_,rfl⟩
 obtain⟨ha,hn1,hcap,hve⟩:∃ a n cap,hv=.slice a n cap:=⟨_,_,_,hh.choose_spec.choose_spec.choose_spec.1⟩
 rw[hx];subst hve;obtain⟨r6,g6,f0,f1,f2,f3,f4,f5⟩:=allocs6 hR #[.pointer (some ⟨A.be,0,none⟩)] 32 #[.pointer (some ⟨A.bt s,0,none⟩)] 100 #[.pointer (some ⟨A.bc s,0,none⟩)] 105 #[.pointer px] 223 #[zu (link:Int)] 25 #[.slice ha hn1 hcap] 260;have hh6:=hh.grow g6;have k0:=f0.cell 0 rfl;have k1:=f1.cell 0 rfl;have k2:=f2.cell 0 rfl;have k4:=f4.cell 0 rfl
 by_cases h0:link=0
 · have hslots:σ.take.1.slots=σ.slots:=by unfold St.take;simp only;split<;>(unfold St.list;split<;>rfl)
   have htale:σ.take.1.tale=σ.tale:=by unfold St.take;simp only;split<;>(unfold St.list;split<;>rfl)
   have hcalls:σ.take.1.calls=σ.calls:=by unfold St.take;simp only;split<;>(unfold St.list;split<;>rfl)
   have e3:=r6.eng 3 (v:=.pointer (some ⟨A.bp,0,none⟩)) rfl;have hz:((link:Int)==0)=true:=by simpa using h0
   have hz2:((link:Int)=0)=True:=by simpa using h0
   have HT:=zH (take_any r6 hm hn hfree htag);have FACT:∀ L1 v1 m1 w1,Rep {A with L:=L1,vfree:=v1,mp:=m1} σ.take.1 w1→Grow A.L ((((((w.alloc (.cells #[.pointer (some ⟨A.be,0,none⟩)] 32)).alloc (.cells #[.pointer (some ⟨A.bt s,0,none⟩)] 100)).alloc (.cells #[.pointer (some ⟨A.bc s,0,none⟩)] 105)).alloc (.cells #[.pointer px] 223)).alloc (.cells #[zu (link:Int)] 25)).alloc (.cells #[.slice ha hn1 hcap] 260)) L1 w1→∀ l:Nat,w1.cell? ⟨w.heap.size,0,none⟩=some (.pointer (some ⟨A.be,0,none⟩))∧w1.cell? ⟨w.heap.size+4,0,none⟩=some (zu (link:Int))∧w1.frozen? ⟨w.heap.size+4,0,none⟩=false∧
    (w1.setCell ⟨w.heap.size+4,0,none⟩ (zu (l:Int))).cell? ⟨w.heap.size,0,none⟩=some (.pointer (some ⟨A.be,0,none⟩))∧(w1.setCell ⟨w.heap.size+4,0,none⟩ (zu (l:Int))).cell? ⟨w.heap.size+1,0,none⟩=some (.pointer (some ⟨A.bt s,0,none⟩))∧(w1.setCell ⟨w.heap.size+4,0,none⟩ (zu (l:Int))).cell? ⟨w.heap.size+2,0,none⟩=some (.pointer (some ⟨A.bc s,0,none⟩))∧(w1.setCell ⟨w.heap.size+4,0,none⟩ (zu (l:Int))).cell? ⟨w.heap.size+4,0,none⟩=some (zu (l:Int))∧
    (w1.setCell ⟨w.heap.size+4,0,none⟩ (zu (l:Int))).cell? ⟨A.bc s,1,none⟩=some (zi (c.op.key:Int))∧(w1.setCell ⟨w.heap.size+4,0,none⟩ (zu (l:Int))).cell? ⟨A.bc s,3,none⟩=some (zi (c.op.value:Int))∧
    Rep {A with L:=L1,vfree:=v1,mp:=m1} σ.take.1 (w1.setCell ⟨w.heap.size+4,0,none⟩ (zu (l:Int)))∧Grow A.L w L1 (w1.setCell ⟨w.heap.size+4,0,none⟩ (zu (l:Int)))∧
    Box L1 (w1.setCell ⟨w.heap.size+4,0,none⟩ (zu (l:Int))) w.heap.size (.pointer (some ⟨A.be,0,none⟩))∧Box L1 (w1.setCell ⟨w.heap.size+4,0,none⟩ (zu (l:Int))) (w.heap.size+4) (zu (l:Int))∧Box L1 (w1.setCell ⟨w.heap.size+4,0,none⟩ (zu (l:Int))) (w.heap.size+1) (.pointer (some ⟨A.bt s,0,none⟩))∧Box L1 (w1.setCell ⟨w.heap.size+4,0,none⟩ (zu (l:Int))) (w.heap.size+3) (.pointer px)∧Box L1 (w1.setCell ⟨w.heap.size+4,0,none⟩ (zu (l:Int))) (w.heap.size+2) (.pointer (some ⟨A.bc s,0,none⟩))∧Box L1 (w1.setCell ⟨w.heap.size+4,0,none⟩ (zu (l:Int))) (w.heap.size+5) (.slice ha hn1 hcap)∧FRow L1 (w1.setCell ⟨w.heap.size+4,0,none⟩ (zu (l:Int))) 1 (.slice ha hn1 hcap) (if x then [] else [u64 head]):=by
    intro L1 v1 m1 w1 q1 q2 l;have j0:=f0.grow q2;have j1:=f1.grow q2;have j2:=f2.grow q2;have j3:=f3.grow q2;have j4:=f4.grow q2;have j5:=f5.grow q2;obtain⟨r7,g7⟩:=hR.setNew q1 (g6.trans q2) htale rfl (a:=⟨w.heap.size+4,0,none⟩) (by show w.heap.size≤w.heap.size+4;omega) j4.1 (zu (l:Int));have i0:=j0.setOther (a:=⟨w.heap.size+4,0,none⟩) (by show w.heap.size≠w.heap.size+4;omega) (zu (l:Int));have i1:=j1.setOther (a:=⟨w.heap.size+4,0,none⟩) (by show w.heap.size+1≠w.heap.size+4;omega) (zu (l:Int));have i2:=j2.setOther (a:=⟨w.heap.size+4,0,none⟩) (by show w.heap.size+2≠w.heap.size+4;omega) (zu (l:Int));have i3:=j3.setOther (a:=⟨w.heap.size+4,0,none⟩) (by show w.heap.size+3≠w.heap.size+4;omega) (zu (l:Int));have i4:=j4.setSame (zu (l:Int));have i5:=j5.setOther (a:=⟨w.heap.size+4,0,none⟩) (by show w.heap.size+5≠w.heap.size+4;omega) (zu (l:Int));have hc1:σ.take.1.calls.getD s none=some c:=by rw[hcalls];exact hc
    exact⟨j0.cell 0 rfl,j4.cell 0 rfl,j4.frozen 0,i0.cell 0 rfl,i1.cell 0 rfl,i2.cell 0 rfl,i4.cell 0 rfl,r7.call hc1 1 rfl,r7.call hc1 3 rfl,r7,g7,i0.box,i4.box,i1.box,i3.box,i2.box,i5.box,hh.grow g7⟩
   have hc1:σ.take.1.calls.getD s none=some c:=by rw[hcalls];exact hc
   cases ht:σ.take.2 with
   |none=>
    have e:σ.slot s x link head=(σ.take.1,.abort 14 5):=by rw[h0];exact slot_zero_none ht
    rw[e];rw[ht,show takeVal none=.tuple #[zu 0,zi 15] from rfl] at HT;have HF:=zH FACT;clear hR hh hv0 hm hn hfree htag r6 g6 f0 f1 f2 f3 f4 f5 hh6 h0 e ht FACT hslots htale hcalls hc1 hc;generalize σ.take.1=σ1 at*;go_enter Tryz.func151,Tryz.ntmps151;go_wp2_with (first|(go_at_call 167;refine HT.out.mono ?_;rintro e w1 ⟨rfl,A1,⟨⟨L1,v1,m1,rfl⟩,hm1⟩,q1,q2⟩;obtain⟨c0,c4,z4,n0,n1,n2,n4,n5,n6,r7,g7,hb⟩:=HF.out L1 v1 m1 w1 q1 q2 0;rw[show ((0:Nat):Int)=0 from rfl] at n0 n1 n2 n4 n5 n6 r7 g7;have HA:=zH (abort_any r7 s 14 5);have HG:=zH (zA g7 hm1);clear q1 q2 r7 g7 hb hm1)|(go_at_call 97;refine HA.out.mono ?_;rintro e w2 ⟨A2,v,rfl,p1,p2,p3,p4⟩));go_ret;have hst:Stay A {A with L:=L1,vfree:=v1,mp:=m1} s:=⟨rfl,rfl,rfl,rfl,rfl,rfl,rfl,rfl,rfl,HG.out.2,rfl,fun _ _=>rfl,fun _ _=>rfl⟩
    exact⟨A2,v,rfl,p1,HG.out.1.trans p2,hst.trans p3,p4⟩
   |some l=>
    have e:σ.slot s x link head=(σ.take.1.lay s l,.slotB x l head):=by rw[h0];exact slot_zero_some ht
    rw[e];rw[ht,show takeVal (some l)=.tuple #[zu (l:Int),zi 0] from rfl] at HT;have hvl:VL σ.take.1 l:=(take_VL hfree (by have:=hR.sl;omega) htag ht).1;have FIN:∀ L1 v1 m1 ws,Rep {A with L:=L1,vfree:=v1,mp:=m1} σ.take.1 ws→Grow A.L w L1 ws→Calls Tryz.prog 87 #[.pointer (some ⟨A.be,0,none⟩),zu (l:Int)] ws.drew (fun e w'=>e=.returned (.pointer (some ⟨A.bv,2*slotOf l,none⟩))∧w'=ws.drew)∧ws.drew.there A.bv (2*slotOf l) 2∧(∀ w',World.setCells ws.drew A.bv (2*slotOf l) [zi (c.op.key:Int),zi (c.op.value:Int)]=w'→Rep {A with L:=L1,vfree:=v1,mp:=m1} (σ.take.1.lay s l) w'∧Grow A.L w L1 w'∧Grow L1 ws L1 w'):=by
     intro L1 v1 m1 ws r7 g7;obtain⟨t1,t2,t3⟩:=lay_any r7.drew s c hc1 l hvl;refine⟨flip (data_any r7.drew l hvl.lo hvl.hi hvl.u),t1,?_⟩;rintro w' rfl;have gd:Grow L1 ws L1 ws.drew:=Grow.drew _ _;exact⟨t2,(g7.trans gd).trans t3,gd.trans t3⟩
    have HF:=zH FACT;have HN:=zH FIN;have hx':(kp A σ.take.1 s).xo x=.pointer px:=by
     rw[show kp A σ.take.1 s=kp A σ s by unfold kp St.c;rw[hcalls]];exact hx
    have HX:=zH hx';clear hR hh hv0 hm hn hfree htag r6 g6 f0 f1 f2 f3 f4 f5 hh6 h0 e ht FACT hslots htale hcalls hc1 hc hvl FIN hx hx';generalize σ.take.1=σ1 at*;go_enter Tryz.func151,Tryz.ntmps151;go_wp2_with (go_at_call 167;refine HT.out.mono ?_;rintro e w1 ⟨rfl,A1,⟨⟨L1,v1,m1,rfl⟩,hm1⟩,q1,q2⟩;obtain⟨c0,c4,z4,n0,n1,n2,n4,n5,n6,r7,g7,hb⟩:=HF.out L1 v1 m1 w1 q1 q2 l;have HG:=zH (zA r7 (zA g7 (zA hm1 hb)));clear q1 q2 r7 g7 hb hm1);generalize hws:World.setCell _ _ _=ws at*;obtain⟨d0,d1,d2⟩:=HN.out L1 v1 m1 ws HG.out.1 HG.out.2.1;have HD:=zH d0;clear HT;have HT:=zH d1;have HLY:=zH d2;clear d0 d1 d2 HF HN hws;refine wp_region_still_tail 15 (by kernel_rfl) (by kernel_rfl) ?_;simp only[zta,ztb,ztc,ztd]
    repeat still_step
    still_call HD.out
    repeat still_step
    refine wpStill_nil ?_;change wpList _ _ _ _ _ ws.drew;generalize ws.drew=wd at*;go_wp2_with (refine wpList_store_mid rfl 190 (.tmp 44) (.tmp 43) rfl A.bv (2*slotOf l) #[zi (c.op.key:Int),zi (c.op.value:Int)] rfl rfl HT.out (by kernel_rfl) (by simp[Value.oneCell']) ?_;generalize hws:World.setCells _ _ _ _=ws;obtain⟨k1,k2⟩:=HLY.out ws hws;have HK:=zH (zA k1 k2);clear k1 k2 hws);go_ret;obtain⟨b0,b4,b1,b3,b2,b5,hrow⟩:=HG.out.2.2.2;obtain⟨r8,g8,g9⟩:=HK.out;exact⟨_,_,rfl,r8,g8,⟨rfl,rfl,rfl,rfl,rfl,rfl,rfl,rfl,rfl,HG.out.2.2.1,rfl,fun _ _=>rfl,fun _ _=>rfl⟩,_,_,_,_,_,_,rfl,b0.grow g9,b4.grow g9,b1.grow g9,by have:=b3.grow g9;rw[←HX.out] at this;exact this,b2.grow g9,_,b5.grow g9,hrow.grow g9⟩
 · have hvl:=hv0.resolve_left h0
   rw[slot_link h0];have d1:((link:Int)==0)=false:=by simpa using h0
   have d2:((link:Int)=0)=False:=by simpa using h0
   have q1:=r6.call hc 1 (v:=zi (c.op.key:Int)) rfl;have q3:=r6.call hc 3 (v:=zi (c.op.value:Int)) rfl;have HD:=zH (flip (data_any r6.drew link hvl.lo hvl.hi hvl.u));obtain⟨t1,t2,t3⟩:=lay_any r6.drew s c hc link hvl;have HT:=zH t1;have HLY:Hid (∀ ws,World.setCells ((((((w.alloc (.cells #[.pointer (some ⟨A.be,0,none⟩)] 32)).alloc (.cells #[.pointer (some ⟨A.bt s,0,none⟩)] 100)).alloc (.cells #[.pointer (some ⟨A.bc s,0,none⟩)] 105)).alloc (.cells #[.pointer px] 223)).alloc (.cells #[zu (link:Int)] 25)).alloc (.cells #[.slice ha hn1 hcap] 260)).drew A.bv (2*slotOf link) [zi (c.op.key:Int),zi (c.op.value:Int)]=ws→Rep A (σ.lay s link) ws∧Grow A.L ((((((w.alloc (.cells #[.pointer (some ⟨A.be,0,none⟩)] 32)).alloc (.cells #[.pointer (some ⟨A.bt s,0,none⟩)] 100)).alloc (.cells #[.pointer (some ⟨A.bc s,0,none⟩)] 105)).alloc (.cells #[.pointer px] 223)).alloc (.cells #[zu (link:Int)] 25)).alloc (.cells #[.slice ha hn1 hcap] 260)).drew A.L ws):=zH (by rintro ws rfl;exact⟨t2,t3⟩);have HB:=zH (zA (g6.trans (Grow.drew _ _)) (zA (zA f0 (zA f4 (zA f1 (zA f3 (zA f2 f5))))) (zA hh6 (Grow.drew A.L ((((((w.alloc (.cells #[.pointer (some ⟨A.be,0,none⟩)] 32)).alloc (.cells #[.pointer (some ⟨A.bt s,0,none⟩)] 100)).alloc (.cells #[.pointer (some ⟨A.bc s,0,none⟩)] 105)).alloc (.cells #[.pointer px] 223)).alloc (.cells #[zu (link:Int)] 25)).alloc (.cells #[.slice ha hn1 hcap] 260))))));clear hR hh hv0 hm hn hfree htag r6 g6 f0 f1 f2 f3 f4 f5 hh6 hvl h0 t1 t2 t3;go_enter Tryz.func151,Tryz.ntmps151;go_wp2_with fail;generalize ((((((w.alloc (.cells #[.pointer (some ⟨A.be,0,none⟩)] 32)).alloc (.cells #[.pointer (some ⟨A.bt s,0,none⟩)] 100)).alloc (.cells #[.pointer (some ⟨A.bc s,0,none⟩)] 105)).alloc (.cells #[.pointer px] 223)).alloc (.cells #[zu (link:Int)] 25)).alloc (.cells #[.slice ha hn1 hcap] 260))=w6 at*;refine wp_region_still_tail 15 (by kernel_rfl) (by kernel_rfl) ?_;simp only[zta,ztb,ztc,ztd]
   repeat still_step
   still_call HD.out
   repeat still_step
   refine wpStill_nil ?_;change wpList _ _ _ _ _ w6.drew;generalize w6.drew=wd at*;go_wp2_with (refine wpList_store_mid rfl 190 (.tmp 44) (.tmp 43) rfl A.bv (2*slotOf link) #[zi (c.op.key:Int),zi (c.op.value:Int)] rfl rfl HT.out (by kernel_rfl) (by simp[Value.oneCell']) ?_;generalize hws:World.setCells _ _ _ _=ws;obtain⟨k1,k2⟩:=HLY.out ws hws;have HK:=zH (zA k1 k2);clear k1 k2 hws);go_ret;obtain⟨g7,⟨f0,f4,f1,f3,f2,f5⟩,hh6,gd⟩:=HB.out;obtain⟨r8,g8⟩:=HK.out;have g9:=gd.trans g8;exact⟨A,_,rfl,r8,g7.trans g8,Stay.refl _ _,_,_,_,_,_,_,rfl,(f0.grow g9).box,(f4.grow g9).box,(f1.grow g9).box,hx ▸ (f3.grow g9).box,(f2.grow g9).box,_,(f5.grow g9).box,hh6.grow g9⟩
theorem free_any (hR:Rep A σ w) (s:Nat) (c:Cal) (hc:σ.calls.getD s none=some c) (link head at_:Nat) (hv0:link=0∨VL σ link)
 (hm:A.mp=0) (hn:σ.free.length<100000) (hfree:∀ i∈σ.list.free,i<σ.slots) (htag:∀ i,i<σ.slots→(σ.tags.getD i (0,false)).1≤65535):
 Calls Tryz.prog 154 #[.pointer (some ⟨A.be,0,none⟩),.pointer (some ⟨A.bt s,0,none⟩),.pointer (some ⟨A.bc s,0,none⟩),zu (link:Int),zu (head:Int),zu (at_:Int)] w (Tells A w s (σ.freeK s link head at_)):=by
 obtain⟨r6,g6,f0,f1,f2,f3,f4,f5⟩:=allocs6 hR #[.pointer (some ⟨A.be,0,none⟩)] 32 #[.pointer (some ⟨A.bt s,0,none⟩)] 100 #[.pointer (some ⟨A.bc s,0,none⟩)] 105 #[zu (link:Int)] 25 #[zu (head:Int)] 25 #[zu (at_:Int)] 25;have k0:=f0.cell 0 rfl;have k1:=f1.cell 0 rfl;have k2:=f2.cell 0 rfl;have k3:=f3.cell 0 rfl;have k4:=f4.cell 0 rfl;have k5:=f5.cell 0 rfl;unfold St.freeK
 by_cases h0:at_=0
 · rw[if_pos h0]
   have d1:((at_:Int)==0)=true:=by simpa using h0
   have d2:((at_:Int)=0)=True:=by simpa using h0
   obtain⟨r7,g7,f6⟩:=allocs1 r6 #[zu (head:Int)] 25;have hrow:FRow A.L (((((((w.alloc (.cells #[.pointer (some ⟨A.be,0,none⟩)] 32)).alloc (.cells #[.pointer (some ⟨A.bt s,0,none⟩)] 100)).alloc (.cells #[.pointer (some ⟨A.bc s,0,none⟩)] 105)).alloc (.cells #[zu (link:Int)] 25)).alloc (.cells #[zu (head:Int)] 25)).alloc (.cells #[zu (at_:Int)] 25)).alloc (.cells #[zu (head:Int)] 25)) 1 (.slice (some ⟨w.heap.size+6,0,none⟩) 1 1) (if false then [] else [u64 head]):=by
    rw[show ((((((w.alloc (.cells #[.pointer (some ⟨A.be,0,none⟩)] 32)).alloc (.cells #[.pointer (some ⟨A.bt s,0,none⟩)] 100)).alloc (.cells #[.pointer (some ⟨A.bc s,0,none⟩)] 105)).alloc (.cells #[zu (link:Int)] 25)).alloc (.cells #[zu (head:Int)] 25)).alloc (.cells #[zu (at_:Int)] 25)).heap.size=w.heap.size+6 by simp] at f6;refine⟨_,_,_,rfl,rfl,by omega,by unfold maxLen;omega,.inr ⟨_,0,rfl,f6.1,?_,?_⟩⟩
    · simp
    · intro j hj
      have hj0:j=0:=by omega
      subst hj0;exact f6.cell 0 rfl
   have HS:=zH (slot_tells r7 s c hc false link head _ hrow hv0 hm hn hfree htag);have HG:=zH (g6.trans g7);clear hR hc hv0 hm hn hfree htag h0 hrow r6 g6 r7 g7 f0 f1 f2 f3 f4 f5 f6;go_enter Tryz.func154,Tryz.ntmps154;go_wp2_with (go_at_call 151;refine HS.out.mono ?_;rintro e w2 ⟨A2,v,rfl,p1,p2,p3,p4⟩);go_ret;exact⟨A2,v,rfl,p1,HG.out.trans p2,p3,p4⟩
 · rw[if_neg h0]
   have d1:((at_:Int)==0)=false:=by simpa using h0
   have d2:((at_:Int)=0)=False:=by simpa using h0
   obtain⟨r7,g7,f6⟩:=allocs1 r6 #[.func (.func 172) #[] #[.pointer (some ⟨w.heap.size,0,none⟩),.pointer (some ⟨w.heap.size+1,0,none⟩),.pointer (some ⟨w.heap.size+2,0,none⟩),.pointer (some ⟨w.heap.size+3,0,none⟩),.pointer (some ⟨w.heap.size+4,0,none⟩),.pointer (some ⟨w.heap.size+5,0,none⟩)]] 138;have HG:=zH (zA r7 (zA (g6.trans g7) (zA (f0.grow g7).box (zA (f1.grow g7).box (zA (f2.grow g7).box (zA (f3.grow g7).box (zA (f4.grow g7).box (zA (f5.grow g7).box f6.box))))))));clear hR hc hv0 hm hn hfree htag h0 r6 g6 r7 g7 f0 f1 f2 f3 f4 f5 f6;go_enter Tryz.func154,Tryz.ntmps154;go_wp2;go_ret;obtain⟨r7,g7,f0,f1,f2,f3,f4,f5,f6⟩:=HG.out;have hsz:((((((w.alloc (.cells #[.pointer (some ⟨A.be,0,none⟩)] 32)).alloc (.cells #[.pointer (some ⟨A.bt s,0,none⟩)] 100)).alloc (.cells #[.pointer (some ⟨A.bc s,0,none⟩)] 105)).alloc (.cells #[zu (link:Int)] 25)).alloc (.cells #[zu (head:Int)] 25)).alloc (.cells #[zu (at_:Int)] 25)).heap.size=w.heap.size+6:=by simp
   rw[hsz] at f6;exact⟨A,_,rfl,r7,g7,Stay.refl _ _,_,_,_,_,_,_,rfl,f0,f5,f1,⟨_,f6,_,_,_,_,_,_,rfl,f0,f1,f2,f3,f4,f5⟩,f2,f3⟩
structure PoolOk (σ:St):Prop where
 n:σ.free.length<100000
 free:∀ i∈σ.free,i<σ.slots
 tag:∀ i,i<σ.slots→(σ.tags.getD i (0,false)).1≤65535
 worn:σ.worn<1000000
theorem PoolOk.list {σ:St} (h:PoolOk σ):∀ i∈σ.list.free,i<σ.slots:=by
 unfold St.list
 split
 · exact h.free
 · intro i hi
   rcases List.mem_append.1 hi with h1|h1
   · exact h.free i h1
   · simpa using h1
theorem load_i (h:Rep A σ w) (i:Nat) (z:Int) (hz:z=(i:Int)) (hi:i<σ.words.length) (hc:σ.count<4000000000000000000):
 Calls Tryz.prog 42 #[.pointer (some ⟨A.ba,0,none⟩),zi z] w (Did A w σ.tick (zu (σ.word i:Int))):=by subst hz;exact load_any h i hi hc
theorem k_fresh (hR:Rep A σ w) (s:Nat) (c:Cal) (hc:σ.calls.getD s none=some c) (link:Nat) (hv0:link=0∨VL σ link) (hk:c.op.key<64) (hm:A.mp=0) (hp:PoolOk σ) (hcnt:σ.count<4000000000000000000)
 (b0 b1 b2 b3:Nat) (B0:Box A.L w b0 (.pointer (some ⟨A.be,0,none⟩))) (B1:Box A.L w b1 (.pointer (some ⟨A.bc s,0,none⟩))) (B2:Box A.L w b2 (.pointer (some ⟨A.bt s,0,none⟩))) (B3:Box A.L w b3 (zu (link:Int))):
 Calls Tryz.prog 153 #[.pointer (some ⟨b0,0,none⟩),.pointer (some ⟨b1,0,none⟩),.pointer (some ⟨b2,0,none⟩),.pointer (some ⟨b3,0,none⟩)] w (Ran A w s (σ.run s (.fresh link))):=by
 have c0:=B0.cell;have c1:=B1.cell;have e2:=hR.z2;have k1:w.cell? ⟨A.bc s,1,none⟩=some (zi (c.op.key:Int)):=hR.call hc 1 rfl;have n1:IntKind.i64.wrap (9+(c.op.key:Int))=9+(c.op.key:Int):=by rw[IntKind.wrap_i64];omega
 have HL:=zH (load_i hR.drew (9+c.op.key) (9+(c.op.key:Int)) (by omega) (by rw[hR.nw];omega) hcnt);have hrun:σ.run s (.fresh link)=(((σ.tick.freeK s link (σ.word (9+c.op.key)) (σ.word (9+c.op.key)))).1,some ((σ.tick.freeK s link (σ.word (9+c.op.key)) (σ.word (9+c.op.key)))).2):=by
  simp only[St.run,call_get hc]
 rw[hrun];have HB:Hid (∀ w1,Rep A σ.tick w1→Grow A.L w.drew A.L w1→Calls Tryz.prog 154 #[.pointer (some ⟨A.be,0,none⟩),.pointer (some ⟨A.bt s,0,none⟩),.pointer (some ⟨A.bc s,0,none⟩),zu (link:Int),zu (σ.word (9+c.op.key):Int),zu (σ.word (9+c.op.key):Int)] w1 (Tells A w1 s (σ.tick.freeK s link (σ.word (9+c.op.key)) (σ.word (9+c.op.key))))∧w1.cell? ⟨b0,0,none⟩=some (.pointer (some ⟨A.be,0,none⟩))∧w1.cell? ⟨b1,0,none⟩=some (.pointer (some ⟨A.bc s,0,none⟩))∧w1.cell? ⟨b2,0,none⟩=some (.pointer (some ⟨A.bt s,0,none⟩))∧w1.cell? ⟨b3,0,none⟩=some (zu (link:Int))∧Grow A.L w A.L w1):=by
  intro w1 q1 q2;have g:Grow A.L w A.L w1:=(Grow.drew _ _).trans q2;exact⟨free_any q1 s c hc link _ _ (hv0.imp id fun h=>⟨h.lo,h.hi,h.u⟩) hm hp.n (PoolOk.list (σ:=σ.tick) ⟨hp.n,hp.free,hp.tag,hp.worn⟩) hp.tag,(B0.grow g).cell,(B1.grow g).cell,(B2.grow g).cell,(B3.grow g).cell,g⟩
 clear hR hc hv0 hm hp hcnt B0 B1 B2 B3 hrun hk;generalize σ.tick.freeK s link (σ.word (9+c.op.key)) (σ.word (9+c.op.key))=res at*;generalize σ.word (9+c.op.key)=hd at*;generalize c.op.key=key at*;go_enter Tryz.func153,Tryz.ntmps153;go_wp2_with fail;refine wp_region_still_tail 10 (by kernel_rfl) (by kernel_rfl) ?_;simp only[zta,ztb,ztc,ztd]
 repeat still_step
 refine wpStill_nil ?_;change wpList _ _ _ _ _ w.drew;generalize w.drew=wd at*;go_wp2_with (first|(go_at_call 42;refine HL.out.mono ?_;rintro e w1 ⟨rfl,q1,q2⟩;obtain⟨hf,d0,d1,d2,d3,g1⟩:=HB.out w1 q1 q2;have HF:=zH (zA hf g1);clear q1 q2 hf g1)|(go_at_call 154;refine HF.out.1.mono ?_;rintro e w2 ⟨A2,v,rfl,p1,p2,p3,p4⟩));go_ret;exact⟨A2,v,rfl,p1,HF.out.2.trans p2,p3,p4⟩
theorem k_next (hR:Rep A σ w) (s:Nat) (c:Cal) (hc:σ.calls.getD s none=some c) (link head at_:Nat) (hv0:link=0∨VL σ link) (hv:VL σ at_) (hm:A.mp=0) (hp:PoolOk σ) (hcnt:σ.count<4000000000000000000)
 (b0 b1 b2 b3 b4 b5:Nat) (B0:Box A.L w b0 (.pointer (some ⟨A.be,0,none⟩))) (B1:Box A.L w b1 (.pointer (some ⟨A.bt s,0,none⟩))) (B2:Box A.L w b2 (.pointer (some ⟨A.bc s,0,none⟩))) (B3:Box A.L w b3 (zu (link:Int))) (B4:Box A.L w b4 (zu (head:Int))) (B5:Box A.L w b5 (zu (at_:Int))):
 Calls Tryz.prog 172 #[.pointer (some ⟨b0,0,none⟩),.pointer (some ⟨b1,0,none⟩),.pointer (some ⟨b2,0,none⟩),.pointer (some ⟨b3,0,none⟩),.pointer (some ⟨b4,0,none⟩),.pointer (some ⟨b5,0,none⟩)] w (Ran A w s (σ.run s (.next link head at_))):=by
 have c0:=B0.cell;have c1:=B1.cell;have c2:=B2.cell;have c3:=B3.cell;have c4:=B4.cell;have c5:=B5.cell;have hsl:=hR.sl;have e2:=hR.z2;have HS:=zH (slot_at at_ 2 2 rfl hv.lo (by have:=hv.hi;omega) hv.u (by omega));have HL:=zH (load_any hR.drew (wslot at_ 2) (wslot_lt hR hv.lo hv.hi (by omega)) hcnt);have HG:=zG A.L w;have HK:Hid (∀ w',Kp A w w'→w'.cell? ⟨b0,0,none⟩=some (.pointer (some ⟨A.be,0,none⟩))∧w'.cell? ⟨b1,0,none⟩=some (.pointer (some ⟨A.bt s,0,none⟩))∧w'.cell? ⟨b2,0,none⟩=some (.pointer (some ⟨A.bc s,0,none⟩))∧w'.cell? ⟨b3,0,none⟩=some (zu (link:Int))∧w'.cell? ⟨b4,0,none⟩=some (zu (head:Int))∧w'.cell? ⟨b5,0,none⟩=some (zu (at_:Int))∧w'.cell? ⟨A.be,2,none⟩=some (.pointer (some ⟨A.ba,0,none⟩))):=by
  obtain⟨_,x0⟩:=B0;obtain⟨_,x1⟩:=B1;obtain⟨_,x2⟩:=B2;obtain⟨_,x3⟩:=B3;obtain⟨_,x4⟩:=B4;obtain⟨_,x5⟩:=B5;exact fun w' k=>⟨k.fix _ _ _ x0.1 c0,k.fix _ _ _ x1.1 c1,k.fix _ _ _ x2.1 c2,k.fix _ _ _ x3.1 c3,k.fix _ _ _ x4.1 c4,k.fix _ _ _ x5.1 c5,k.ea⟩
 have hrun:σ.run s (.next link head at_)=((σ.tick.freeK s link head (σ.word (wslot at_ 2))).1,some (σ.tick.freeK s link head (σ.word (wslot at_ 2))).2):=rfl;rw[hrun];have HB:Hid (∀ w1,Rep A σ.tick w1→Calls Tryz.prog 154 #[.pointer (some ⟨A.be,0,none⟩),.pointer (some ⟨A.bt s,0,none⟩),.pointer (some ⟨A.bc s,0,none⟩),zu (link:Int),zu (head:Int),zu (σ.word (wslot at_ 2):Int)] w1 (Tells A w1 s (σ.tick.freeK s link head (σ.word (wslot at_ 2))))):=
  fun w1 q1=>free_any q1 s c hc link _ _ (hv0.imp id fun h=>⟨h.lo,h.hi,h.u⟩) hm hp.n (PoolOk.list (σ:=σ.tick) ⟨hp.n,hp.free,hp.tag,hp.worn⟩) hp.tag
 clear hR hc hv0 hv hm hp hcnt B0 B1 B2 B3 B4 B5 hrun hsl;go_enter Tryz.func172,Tryz.ntmps172;go_wp2_with fail
 go_region_held3 (fun w'=>w'.cell? ⟨b0,0,none⟩=some (.pointer (some ⟨A.be,0,none⟩))∧w'.cell? ⟨b1,0,none⟩=some (.pointer (some ⟨A.bt s,0,none⟩))∧w'.cell? ⟨b2,0,none⟩=some (.pointer (some ⟨A.bc s,0,none⟩))∧w'.cell? ⟨b3,0,none⟩=some (zu (link:Int))∧w'.cell? ⟨b4,0,none⟩=some (zu (head:Int))∧w'.cell? ⟨b5,0,none⟩=some (zu (at_:Int))∧w'.cell? ⟨A.be,2,none⟩=some (.pointer (some ⟨A.ba,0,none⟩)))
  (first|exact⟨c0,c1,c2,c3,c4,c5,e2⟩|assumption|exact HK.out _ (Kp.of (by assumption) (by assumption) (by assumption)))
  (first|(go_at_call 85;refine (HS.out _).mono ?_;rintro e w' ⟨rfl,rfl⟩)|(go_at_call 42;refine HL.out.mono ?_;rintro e w1 ⟨rfl,q1,q2⟩;have q4:=HG.out.trans q2;have q3:=Stay.refl A s;clear q2)|(go_at_call 154;refine (HB.out _ (by assumption)).mono ?_;rintro e w2 ⟨A',v,rfl,p1,p2,p3,p4⟩;have p5:=(‹Grow A.L w A.L _›).trans p2))
 go_wp2_with fail;go_ret;exact⟨A',_,rfl,p1,p5,p3,p4⟩
theorem poolLive_eq {σ:St} {link:Nat} (hv:VL σ link):σ.poolLive link=((σ.tags.getD (slotOf link) (0,false)).2&&σ.linkAt (slotOf link)==link):=by
 unfold St.poolLive;have h1:decide (1≤link % 131072)=true:=by simpa using hv.lo
 have h2:decide (link % 131072≤σ.slots)=true:=by simpa using hv.hi
 rw[h1,h2,Bool.true_and,Bool.true_and]
theorem live_any (hR:Rep A σ w) (link:Nat) (hv:VL σ link) (htag:∀ i,i<σ.slots→(σ.tags.getD i (0,false)).1≤65535):
 Calls Tryz.prog 134 #[.pointer (some ⟨A.bp,0,none⟩),zu (link:Int)] w fun e w'=>e=.returned (.bool (σ.poolLive link))∧w=w':=by
 have hi:=slotOf_lt hv;have hu:=Word.unlink_any (link:Int) (by omega) (by have:=hv.u;omega) w;rw[←slotOf_cast hv.lo] at hu;have p0:w.cell? ⟨A.bp,0,none⟩=some (.slice (some ⟨A.bs,0,none⟩) σ.slots σ.slots):=hR.pool 0 rfl;have t1:=(hR.tag hi).2;rw[Nat.mul_comm] at t1;have hl:=link_any hR (slotOf link) hi (htag _ hi);have b0:(0:Int)≤(slotOf link:Int):=by omega
 have b1:(slotOf link:Int)<(σ.slots:Int):=by omega
 rw[poolLive_eq hv];have HU:=zH hu;have HL:=zH hl;clear hu hl hv htag hR hi;generalize slotOf link=i at*
 cases htk:(σ.tags.getD i (0,false)).2 with
 |false=>
  rw[htk] at t1;clear htk;go_enter Tryz.func134,Tryz.ntmps134;go_wp2_with (go_at_call 107;refine HU.out.mono ?_;rintro e w' ⟨rfl,rfl⟩);go_ret;exact⟨rfl,rfl⟩
 |true=>
  rw[htk] at t1;clear htk;rw[Bool.true_and];generalize σ.linkAt i=la at*
  by_cases he:la=link
  · have d1:((la:Int)==(link:Int))=true:=by simp;omega
    have d2:(la==link)=true:=by simp;omega
    rw[d2];have d3:((la:Int)=(link:Int))=True:=by simp;omega
    clear d2 he;go_enter Tryz.func134,Tryz.ntmps134;go_wp2_with (first|(go_at_call 107;refine HU.out.mono ?_;rintro e w' ⟨rfl,rfl⟩)|(go_at_call 158;refine HL.out.mono ?_;rintro e w' ⟨rfl,rfl⟩));go_ret;exact⟨rfl,rfl⟩
  · have d1:((la:Int)==(link:Int))=false:=by simp;omega
    have d2:(la==link)=false:=by simp;omega
    rw[d2];have d3:((la:Int)=(link:Int))=False:=by simp;omega
    clear d2 he;go_enter Tryz.func134,Tryz.ntmps134;go_wp2_with (first|(go_at_call 107;refine HU.out.mono ?_;rintro e w' ⟨rfl,rfl⟩)|(go_at_call 158;refine HL.out.mono ?_;rintro e w' ⟨rfl,rfl⟩));go_ret;exact⟨rfl,rfl⟩
end Go.Proofs.YthicolbbmjfkfaaGreat.Em
