import Derived.Test.YtiimlopcifljeaaGreatDoorQk3
namespace Go.Proofs.YtiimlopcifljeaaGreatDoor.Em
open Go.ChangeShapes Go.WideShapes Go.ChangeAt Go.RowKit En
set_option linter.unusedVariables false
set_option linter.unusedSimpArgs false
set_option maxRecDepth 100000
set_option maxHeartbeats 1600000
variable {A:Book} {σ:St} {w:World}
theorem infoI:(Tryz.prog.info? 3).map (fun i=>(i.zero,i.size,i.bytes))=some (some (zi 0),1,8):=by kernel_rfl
def FreeOnly (A A':Book):Prop:=∃ L v,A'={A with L:=L,vfree:=v}
def freeTo (σ:St) (k:Nat):St:={σ with free:=σ.free++(List.range σ.slots).reverse.take k}
theorem freeTo_succ (σ:St) (k:Nat) (hk:k<σ.slots):(freeTo σ (k+1)).free=(freeTo σ k).free++[σ.slots - 1 - k]:=by
 unfold freeTo;simp only;rw[List.take_succ_eq_append_getElem (by simpa using hk),List.append_assoc];simp
theorem free_row (h:Rep A σ w):w.ownsRow 0 3 1 A.vfree σ.free.length (σ.free.map i64):=(h.mem.all .free).1
theorem free_step (hR:Rep A σ w) (i:Nat):
 ∃ av capv,A.vfree=.slice av σ.free.length capv∧∀ v' w2,w2.ownsRow 0 3 1 v' (σ.free.length+1) (σ.free.map i64++[zi (i:Int)])→(w.alloc (.cells #[zi (i:Int)] 3)).grownBy w2 A.vfree.ownBlock→(v'.ownBlock=A.vfree.ownBlock∨∀ g,v'.ownBlock=some g→(w.alloc (.cells #[zi (i:Int)] 3)).heap.size≤g)→
  (∃ A',FreeOnly A A'∧Rep A' {σ with free:=σ.free++[i]} (w2.setCell ⟨A.bp,2,none⟩ v')∧Grow A.L w A'.L (w2.setCell ⟨A.bp,2,none⟩ v'))∧w2.cell? ⟨A.bp,2,none⟩=some A.vfree∧w2.frozen? ⟨A.bp,2,none⟩=false∧(∀ b u,A.L b=none→w.cell? ⟨b,0,none⟩=some u→w2.cell? ⟨b,0,none⟩=some u):=by
 obtain⟨av,capv,hv,_⟩:=Ow.own_form (free_row hR);refine⟨av,capv,hv,fun v' w2 q1 q2 q3=>?_⟩;obtain⟨r1,g1,_⟩:=allocs1 hR #[zi (i:Int)] 3;obtain⟨p1,p2,p3,p4⟩:=r1.freeOn (σ.free++[i]) v' q2 (by simpa using q1) q3;refine⟨⟨_,⟨_,_,rfl⟩,p1,g1.trans p2⟩,p3,p4,fun b u hl hc=>?_⟩;have hc1:(w.alloc (.cells #[zi (i:Int)] 3)).cell? ⟨b,0,none⟩=some u:=by
  rw[World.cell?_alloc_past _ _ _ (World.block_lt_of_cell? w _ hc)];exact hc
 refine q2.cell hc1 fun e=>?_
 have:=(hR.mem.all .free).2 b e.symm;rw[hl] at this
 cases this
theorem list_body (hR:Rep A σ w) (b0:Nat) (B0:Box A.L w b0 (.pointer (some ⟨A.bp,0,none⟩))) (hn:σ.free.length<100000):
 Calls Tryz.prog 182 #[.pointer (some ⟨b0,0,none⟩)] w fun e w'=>e=.returned (.tuple #[])∧∃ A',FreeOnly A A'∧Rep A' (freeTo σ σ.slots) w'∧Grow A.L w A'.L w':=by
 have c0:=B0.cell;have p0:w.cell? ⟨A.bp,0,none⟩=some (.slice (some ⟨A.bs,0,none⟩) σ.slots σ.slots):=hR.pool 0 rfl;have hsl:=hR.sl;have HR:=zH hR;have HB:=zH B0;have HN:=zH (zA hn hsl);have hw1:IntKind.i64.wrap ((σ.slots:Int) - 1)=(σ.slots:Int) - 1:=by rw[IntKind.wrap_i64];omega
 clear hR B0 hn hsl;go_enter Tryz.func182,Tryz.ntmps182;go_wp2_with fail
 go_loopw [1] (fun i wr=>∃ k:Nat,k≤σ.slots∧i=zi ((σ.slots:Int) - 1 - (k:Int))∧∃ A',FreeOnly A A'∧Rep A' (freeTo σ k) wr∧Grow A.L w A'.L wr) (fun i _=>(intOf i+1).toNat)
 case atStart=>exact⟨0,Nat.zero_le _,by simp,A,⟨_,_,rfl⟩,by simpa [freeTo] using HR.out,Grow.refl _ _⟩
 case round=>
  obtain⟨k,hk,rfl,A',⟨L',v1,rfl⟩,hr,hg⟩:=hrel
  by_cases hlt:k<σ.slots
  · obtain⟨j,hj⟩:∃ j:Nat,j=σ.slots - 1 - k:=⟨_,rfl⟩
    have ej:(σ.slots:Int) - 1 - (k:Int)=(j:Int):=by omega
    rw[ej];have d1:(0:Int)≤(j:Int):=by omega
    have d2:IntKind.i64.wrap ((j:Int) - 1)=(j:Int) - 1:=by rw[IntKind.wrap_i64];have:=HN.out.2;omega
    have B1:=HB.out.grow hg;obtain⟨av,capv,hv,hstep⟩:=free_step hr j;obtain⟨r1,g1,_⟩:=allocs1 hr #[zi (j:Int)] 3;have c0:=B1.cell;have c1:=(B1.grow g1).cell;have hb0:L' b0=none:=by obtain⟨_,hx⟩:=B1;exact hx.1
    have HB0:=zH (zA hb0 c0);clear hb0;have p2:wr.cell? ⟨A.bp,2,none⟩=some v1:=hr.pool 2 rfl;have p3:(wr.alloc (.cells #[zi (j:Int)] 3)).cell? ⟨A.bp,2,none⟩=some v1:=r1.pool 2 rfl;have hown:(wr.alloc (.cells #[zi (j:Int)] 3)).ownsRow 0 3 1 v1 (freeTo σ k).free.length ((freeTo σ k).free.map i64):=free_row r1;have hv':v1=.slice av (freeTo σ k).free.length capv:=hv;have hfl:(freeTo σ k).free.length=σ.free.length+k:=by unfold freeTo;simp;omega
    rw[hv'] at p2 p3 hown;have HST:=zH hstep;have HV:=zH hv';have HO:=zH hown;have HL:=zH (zA hlt (zA hj (zA ej (zA hfl hg))));have hlen:(freeTo σ k).free.length<200000:=by have:=HN.out.1;have:=HN.out.2;omega
    clear hr hg B1 r1 g1 hstep hv hv' hown hfl hlt hj ej hk;generalize (freeTo σ k).free.length=len at*;obtain⟨i0,hi,hz0,hz1,hz2⟩:=info_parts infoI;go_wp2_with fail
    go_region_law (first|(refine Ow.wp_append_to _ (.tmp 16) (.tmp 18) 57 rfl 0 _ i0 _ 1 8 Tryz.underlying57 hi hz0 hz1 hz2 rfl (by decide) (.slice av len capv) len ((freeTo σ k).free.map i64) rfl HO.out ⟨wr.heap.size,0,none⟩ 1 1 (by omega) [zi (j:Int)] rfl rfl (by intro j' u hu;exact Ow.new_row wr [zi (j:Int)] _ _ rfl j' u hu) (by intro u hu;obtain rfl:=List.mem_singleton.1 hu;rfl) (by unfold maxLen;omega) (by omega) (Nat.zero_le _) ?_;intro v' w2 q1 q2 q3;obtain⟨r1,r2,r3,r4⟩:=HST.out v' w2 q1 (by show (wr.alloc _).grownBy w2 v1.ownBlock;rw[HV.out];exact grown_drew q2) (by show v'.ownBlock=v1.ownBlock∨_;rw[HV.out];exact q3);obtain⟨a4,cap4,rfl,_⟩:=Ow.own_form q1;have R1:=zH r1;have c02:=r4 b0 _ HB0.out.1 HB0.out.2;clear r1 r4 q1 q2 q3))
    all_goals
     go_wp2_with fail
     go_roundw
     case rel=>
      obtain⟨h1,h2,h3,h4,h5⟩:=HL.out;obtain⟨A2,⟨L2,v2,rfl⟩,q1,q2⟩:=R1.out;refine⟨k+1,by omega,by rw[show (σ.slots:Int) - 1 - ((k+1:Nat):Int)=(j:Int) - 1 by omega],_,⟨L2,v2,rfl⟩,?_,h5.trans q2⟩;have e:freeTo σ (k+1)={freeTo σ k with free:=(freeTo σ k).free++[j]}:=by
       have:=freeTo_succ σ k h1;unfold freeTo at this ⊢;simp only at this ⊢;rw[this,h2]
      rw[e];exact q1
     case measure=>simp[intOf]<;>omega
  · obtain rfl:k=σ.slots:=by omega
    have em:(σ.slots:Int) - 1 - (σ.slots:Int)=-1:=by omega
    rw[em];have HL:=zH (zA hr hg);clear hr hg hlt hk em;go_wp2_with fail
    go_end0
    exact⟨rfl,_,⟨L',v1,rfl⟩,HL.out.1,HL.out.2⟩
structure PoolOnly (A A':Book):Prop where
 ex:∃ L v m,A'={A with L:=L,vfree:=v,mp:=m}
 mp:A'.mp=A.mp
theorem PoolOnly.refl (A:Book):PoolOnly A A:=⟨⟨_,_,_,rfl⟩,rfl⟩
def Pooled (A:Book) (w:World) (σ':St) (v:Value):Ending→World→Prop:=fun e w'=>e=.returned v∧∃ A',PoolOnly A A'∧Rep A' σ' w'∧Grow A.L w A'.L w'
theorem list_any (hR:Rep A σ w) (hm:A.mp=0) (hn:σ.free.length<100000):
 Calls Tryz.prog 154 #[.pointer (some ⟨A.bp,0,none⟩)] w (Pooled A w σ.list (.tuple #[])):=by
 obtain⟨r1,g1,f0⟩:=allocs1 hR #[.pointer (some ⟨A.bp,0,none⟩)] 119;have c0:=f0.cell 0 (v:=.pointer (some ⟨A.bp,0,none⟩)) rfl
 by_cases hl:σ.listed=true
 · have p4:(w.alloc (.cells #[.pointer (some ⟨A.bp,0,none⟩)] 119)).cell? ⟨A.bp,4,none⟩=some (.int .u32 1):=r1.pool 4 (by simp[poolCs,onceCs,hl])
   have hd:=do_done ⟨A.bp,4,none⟩ (.func (.func 182) #[] #[.pointer (some ⟨w.heap.size,0,none⟩)]) _ p4;have e:σ.list=σ:=by unfold St.list;rw[if_pos hl]
   rw[e];have HR:=zH (zA r1 g1);have HD:=zH hd;clear hR r1 g1 f0 hd e hl hn p4 hm;go_enter Tryz.func154,Tryz.ntmps154;go_wp2_with (go_at_call 181;refine HD.out.mono ?_;rintro e w' ⟨rfl,rfl⟩)
   go_end0
   exact⟨rfl,A,PoolOnly.refl A,HR.out.1,HR.out.2⟩
 · have hl':σ.listed=false:=by simpa using hl
   have p4:(w.alloc (.cells #[.pointer (some ⟨A.bp,0,none⟩)] 119)).cell? ⟨A.bp,4,none⟩=some (.int .u32 0):=r1.pool 4 (by simp[poolCs,onceCs,hl']);have p5:(w.alloc (.cells #[.pointer (some ⟨A.bp,0,none⟩)] 119)).cell? ⟨A.bp,5,none⟩=some (.int .i32 0):=r1.pool 5 (by simp[poolCs,onceCs,hm]);obtain⟨r2,g2⟩:=r1.poolLock 1;have hb:=list_body r2 w.heap.size (f0.box.grow g2) hn;have hd:=do_first A.bp 4 182 #[.pointer (some ⟨w.heap.size,0,none⟩)] (w.alloc (.cells #[.pointer (some ⟨A.bp,0,none⟩)] 119))
    (fun w'=>∃ A',FreeOnly {A with mp:=1} A'∧Rep A' (freeTo σ σ.slots) w'∧Grow A.L w A'.L w') p4 p5 (r1.poolF 4) (r1.poolF 5) (enter_list _)
    (hb.mono fun e w' ⟨h1,A',h2,h3,h4⟩=>⟨h1,A',h2,h3,(g1.trans g2).trans h4⟩)
    (by
      rintro w' ⟨A',⟨L,v,rfl⟩,h3,h4⟩
      exact⟨h3.pool 4 (by simp[poolCs,onceCs,freeTo,hl']),h3.pool 5 (by simp[poolCs,onceCs]),h3.poolF 4,h3.poolF 5⟩)
   have e:σ.list={freeTo σ σ.slots with listed:=true}:=by
    have ht:(List.range σ.slots).reverse.take σ.slots=(List.range σ.slots).reverse:=List.take_of_length_le (by simp);unfold St.list freeTo;rw[if_neg hl,ht]
   rw[e];have HD:=zH hd;have HM:=zH hm;clear hR r1 g1 f0 hd e hl hn p4 p5 r2 g2 hb hl' hm;go_enter Tryz.func154,Tryz.ntmps154;go_wp2_with (go_at_call 181;refine HD.out.mono ?_;rintro e w' ⟨rfl,w2,⟨A',⟨L,v,rfl⟩,h3,h4⟩,rfl⟩)
   go_end0
   obtain⟨k1,q1⟩:=h3.drew.poolDone;obtain⟨k2,q2⟩:=k1.poolLock 0;exact⟨rfl,_,⟨⟨L,v,0,rfl⟩,HM.out.symm⟩,k2,((h4.trans (Grow.drew _ _)).trans q1).trans q2⟩
theorem link_any (hR:Rep A σ w) (i:Nat) (hi:i<σ.slots) (ht:(σ.tags.getD i (0,false)).1≤65535):
 Calls Tryz.prog 215 #[.pointer (some ⟨A.bp,0,none⟩),zi (i:Int)] w fun e w'=>e=.returned (zu ((σ.linkAt i:Nat):Int))∧w=w':=by
 have p0:w.cell? ⟨A.bp,0,none⟩=some (.slice (some ⟨A.bs,0,none⟩) σ.slots σ.slots):=hR.pool 0 rfl;have t0:=(hR.tag hi).1;have t0':=t0;rw[Nat.mul_comm] at t0';have hsl:=hR.sl;have e:((σ.linkAt i:Nat):Int)=((σ.tags.getD i (0,false)).1:Int)*131072+((i:Int)+1):=by unfold St.linkAt linkOf;omega
 have hk:=Word.link_yes (i:Int) ((σ.tags.getD i (0,false)).1:Int) (by omega) (by omega) (by omega) (by omega) w;rw[e];have b1:(i:Int)<(σ.slots:Int):=by omega
 have b0:(0:Int)≤(i:Int):=by omega
 have HK:=zH hk;clear hR hi ht hsl e hk;generalize (σ.tags.getD i (0,false)).1=tg at*;generalize σ.slots=n at*;go_enter Tryz.func215,Tryz.ntmps215;go_wp2_with (go_at_call 256;refine HK.out.mono ?_;rintro e w' ⟨rfl,rfl⟩);go_ret;exact⟨rfl,rfl⟩
theorem own_drop {w:World} {e:TypeId} {n:Nat} {v:Value} {xs:List Value} (h:w.ownsRow 0 e 1 v n xs) (hn:0<n):∃ g cap,v=.slice (some ⟨g,0,none⟩) n cap∧n≤cap∧cap≤9223372036854775807∧w.ownsRow 0 e 1 (.slice (some ⟨g,0,none⟩) (n - 1) cap) (n - 1) xs.dropLast∧(∀ j u,xs[j]? =some u→w.cell? ⟨g,j,none⟩=some u):=by
 have hc:=fun g hg=>h.cells (g:=g) hg
 rcases h.2 with ⟨rfl,h0⟩|⟨g,cap,cur,rfl,hb,hg,hnc,hcm,hcs,htake⟩
 · omega
 · have hcm':=hcm
   unfold maxLen at hcm';refine⟨g,cap,rfl,hnc,hcm',⟨by rw[List.length_dropLast,h.1];omega,.inr ⟨g,cap,cur,rfl,hb,hg,by omega,hcm,hcs,?_⟩⟩,fun j u hj=>?_⟩
   · rw[←htake,List.dropLast_eq_take,List.take_take]
     congr 1
     have:(cur.toList.take (n*1)).length=n:=by rw[htake,h.1];omega
     omega
   · have:=hc g rfl j u hj
     have hadd:(⟨g,0,none⟩:Addr).add j=⟨g,j,none⟩:=by unfold Addr.add;split<;>simp_all
     rw[hadd] at this;exact this
def takeVal:Option Nat→Value
 |some l=>.tuple #[zu (l:Int),zi 0]
 |none=>.tuple #[zu 0,zi 15]
theorem take_none {σ:St} (h:σ.list.free.getLast? =none):σ.take=(σ.list,none):=by unfold St.take;simp only[h]
theorem take_some {σ:St} {i:Nat} (h:σ.list.free.getLast? =some i):σ.take=({σ.list with free:=σ.list.free.dropLast,tags:=σ.list.tags.set i ((σ.list.tags.getD i (0,false)).1,true)},some (σ.list.linkAt i)):=by unfold St.take;simp only[h]
theorem take_any (hR:Rep A σ w) (hm:A.mp=0) (hn:σ.free.length<100000) (hfree:∀ i∈σ.list.free,i<σ.slots) (htag:∀ i,i<σ.slots→(σ.tags.getD i (0,false)).1≤65535):
 Calls Tryz.prog 278 #[.pointer (some ⟨A.bp,0,none⟩)] w fun e w'=>
  e=.returned (takeVal σ.take.2)∧∃ A',PoolOnly A A'∧Rep A' σ.take.1 w'∧Grow A.L w A'.L w':=by
 have hl:=list_any hR hm hn;have hsl:σ.list.slots=σ.slots:=by unfold St.list;split<;>rfl
 have htg:σ.list.tags=σ.tags:=by unfold St.list;split<;>rfl
 have hb1:σ.list.free.length<200000:=by
  have:=hR.sl;unfold St.list
  split
  · omega
  · simp;omega
 have HL:=zH hl;have HF:=zH (zA hfree (zA htag (zA hsl htg)));have HS:=zH hR.sl;clear hR hm hn hfree htag hl hsl htg
 cases hlast:σ.list.free.getLast? with
 |none=>
  rw[take_none hlast];generalize σ.list=σ1 at*;have hnil:σ1.free=[]:=by simpa using hlast
  have HN:=zH hnil;clear hlast hnil;go_enter Tryz.func278,Tryz.ntmps278;go_wp2_with (go_at_call 154;refine HL.out.mono ?_;rintro e w1 ⟨rfl,A1,⟨⟨L1,v1,m1,rfl⟩,hm1⟩,q1,q2⟩;have p2:w1.cell? ⟨A.bp,2,none⟩=some v1:=q1.pool 2 rfl;have hown:=free_row q1;rw[HN.out] at hown;obtain⟨av,capv,hv,_⟩:=Ow.own_form hown;have hv':v1=.slice av 0 capv:=hv;rw[hv'] at p2;have HQ:=zH (zA q1 (zA q2 hm1));clear q1 q2 hown hv hv' hm1)
  go_ret2
  exact⟨rfl,_,⟨⟨_,_,_,rfl⟩,HQ.out.2.2⟩,HQ.out.1,HQ.out.2.1⟩
 |some i=>
  rw[take_some hlast];generalize σ.list=σ1 at*;have hmem:i∈σ1.free:=List.mem_of_getLast? hlast;have hne:σ1.free≠[]:=by rintro h;rw[h] at hmem;cases hmem
  have hpos:0<σ1.free.length:=List.length_pos_iff.2 hne;have hat:(σ1.free.map i64)[σ1.free.length - 1]? =some (zi (i:Int)):=by
   rw[List.getElem?_map,←List.getLast?_eq_getElem?,hlast];rfl
  have hdrop:(σ1.free.map i64).dropLast=σ1.free.dropLast.map i64:=List.map_dropLast.symm;have hdl:σ1.free.dropLast.length=σ1.free.length - 1:=by simp
  have hi:i<σ.slots:=HF.out.1 i hmem;have htt:(σ1.tags.getD i (0,false)).1≤65535:=by rw[HF.out.2.2.2];exact HF.out.2.1 i hi
  have hs1:σ1.slots=σ.slots:=HF.out.2.2.1;have FACT:Hid (∀ L1 v1 m1 w1,Rep {A with L:=L1,vfree:=v1,mp:=m1} σ1 w1→∃ g cap,v1=.slice (some ⟨g,0,none⟩) σ1.free.length cap∧σ1.free.length≤cap∧cap≤9223372036854775807∧w1.cell? ⟨A.bp,2,none⟩=some (.slice (some ⟨g,0,none⟩) σ1.free.length cap)∧w1.frozen? ⟨A.bp,2,none⟩=false∧w1.cell? ⟨g,σ1.free.length - 1,none⟩=some (zi (i:Int))∧w1.cell? ⟨A.bp,0,none⟩=some (.slice (some ⟨A.bs,0,none⟩) σ.slots σ.slots)):=by
   intro L1 v1 m1 w1 q1;obtain⟨g,cap,e1,e2,e3,e4,e5⟩:=own_drop (free_row q1) hpos;have e1':v1=.slice (some ⟨g,0,none⟩) σ1.free.length cap:=e1;refine⟨g,cap,e1',e2,e3,by rw[←e1'];exact q1.pool 2 rfl,q1.poolF 2,e5 _ _ hat,by rw[←hs1];exact q1.pool 0 rfl⟩
  have FIN:Hid (∀ L1 v1 m1 w1 g cap,Rep {A with L:=L1,vfree:=v1,mp:=m1} σ1 w1→v1=.slice (some ⟨g,0,none⟩) σ1.free.length cap→∀ w2,w2=w1.setCell ⟨A.bp,2,none⟩ (.slice (some ⟨g,0,none⟩) (σ1.free.length - 1) cap)→Rep {A with L:=L1,vfree:=.slice (some ⟨g,0,none⟩) (σ1.free.length - 1) cap,mp:=m1} {σ1 with free:=σ1.free.dropLast} w2∧Grow L1 w1 L1 w2):=by
   rintro L1 v1 m1 w1 g cap q1 rfl w2 rfl;obtain⟨g',cap',e1,e2,e3,e4,e5⟩:=own_drop (free_row q1) hpos;simp only[Value.slice.injEq,Option.some.injEq,Addr.mk.injEq,and_true,true_and] at e1;obtain⟨rfl,rfl⟩:=e1;exact q1.freeOff σ1.free.dropLast _ (by rw[hdl,←hdrop];exact e4) rfl
  have hlk:({σ1 with free:=σ1.free.dropLast,tags:=σ1.tags.set i ((σ1.tags.getD i (0,false)).1,true)}:St).linkAt i=σ1.linkAt i∧(({σ1 with free:=σ1.free.dropLast,tags:=σ1.tags.set i ((σ1.tags.getD i (0,false)).1,true)}:St).tags.getD i (0,false)).1=(σ1.tags.getD i (0,false)).1:=by
   by_cases hlt:i<σ1.tags.length
   · unfold St.linkAt
     simp only[getD_set _ _ _ _ _ hlt,if_pos];exact⟨trivial,trivial⟩
   · unfold St.linkAt
     simp[List.set_eq_of_length_le (by omega:σ1.tags.length≤i)]
  have AFTER : Hid (∀ L1 m1 w1 g cap, Rep { A with L := L1, vfree := .slice (some ⟨g, 0, none⟩) σ1.free.length cap, mp := m1 } σ1 w1 →
      (w1.setCell ⟨A.bp,2,none⟩ (.slice (some ⟨g,0,none⟩) (σ1.free.length - 1) cap)).cell? ⟨A.bs,i*2+1,none⟩=some (.bool (σ1.tags.getD i (0,false)).2)∧(w1.setCell ⟨A.bp,2,none⟩ (.slice (some ⟨g,0,none⟩) (σ1.free.length - 1) cap)).frozen? ⟨A.bs,i*2+1,none⟩=false∧
      Rep {A with L:=L1,vfree:=.slice (some ⟨g,0,none⟩) (σ1.free.length - 1) cap,mp:=m1} {σ1 with free:=σ1.free.dropLast,tags:=σ1.tags.set i ((σ1.tags.getD i (0,false)).1,true)} ((w1.setCell ⟨A.bp,2,none⟩ (.slice (some ⟨g,0,none⟩) (σ1.free.length - 1) cap)).setCell ⟨A.bs,i*2+1,none⟩ (.bool true))∧
      Grow L1 w1 L1 ((w1.setCell ⟨A.bp,2,none⟩ (.slice (some ⟨g,0,none⟩) (σ1.free.length - 1) cap)).setCell ⟨A.bs,i*2+1,none⟩ (.bool true))∧
      Calls Tryz.prog 215 #[.pointer (some ⟨A.bp,0,none⟩),zi (i:Int)] ((w1.setCell ⟨A.bp,2,none⟩ (.slice (some ⟨g,0,none⟩) (σ1.free.length - 1) cap)).setCell ⟨A.bs,i*2+1,none⟩ (.bool true)) fun e w'=>e=.returned (zu ((σ1.linkAt i:Nat):Int))∧((w1.setCell ⟨A.bp,2,none⟩ (.slice (some ⟨g,0,none⟩) (σ1.free.length - 1) cap)).setCell ⟨A.bs,i*2+1,none⟩ (.bool true))=w'):=by
   rw[show i*2+1=2*i+1 by omega];intro L1 m1 w1 g cap q1;obtain⟨r2,g2⟩:=FIN.out L1 _ m1 w1 g cap q1 rfl _ rfl;have hi':i<({σ1 with free:=σ1.free.dropLast}:St).slots:=by show i<σ1.slots;omega
   obtain⟨r3,g3⟩:=r2.takenSet hi' true;have hlink:=link_any r3 i hi' (by rw[show (({σ1 with free:=σ1.free.dropLast,tags:=σ1.tags.set i ((σ1.tags.getD i (0,false)).1,true)}:St).tags.getD i (0,false)).1=_ from hlk.2];exact htt);rw[show _=σ1.linkAt i from hlk.1] at hlink;exact⟨(r2.tag hi').2,r2.tagF _,r3,g2.trans g3,hlink⟩
  have b1:(0:Int)≤(i:Int):=by omega
  have b2:(i:Int)<(σ.slots:Int):=by omega
  have d1:((σ1.free.length:Int)==0)=false:=by simp;omega
  have d2:((σ1.free.length:Int)=0)=False:=by simp;omega
  have d3:(σ1.free.length==0)=false:=by simp;omega
  have n1:(1:Int)≤(σ1.free.length:Int):=by omega
  have n2:(σ1.free.length:Int)<200000:=by omega
  have n3:((σ1.free.length:Int) - 1).toNat=σ1.free.length - 1:=by omega
  have n4:IntKind.i64.wrap ((σ1.free.length:Int) - 1)=(σ1.free.length:Int) - 1:=by rw[IntKind.wrap_i64];omega
  clear hlast hmem hne hat hdrop hdl hi htt hs1 hlk hb1 hpos FIN;generalize hlen:σ1.free.length=n at*;have n5:(n:Int) - 1<(n:Int):=by omega
  have n6:(0:Int)≤(n:Int) - 1:=by omega
  clear hlen n2;go_enter Tryz.func278,Tryz.ntmps278;go_wp2_with (first|(go_at_call 154;refine HL.out.mono ?_;rintro e w1 ⟨rfl,A1,⟨⟨L1,v1,m1,rfl⟩,hm1⟩,q1,q2⟩;obtain⟨g,cap,rfl,f1,f2,p2,z2,pc,p0⟩:=FACT.out L1 v1 m1 w1 q1;obtain⟨t1,z1,r3,g3,hlink⟩:=AFTER.out L1 m1 w1 g cap q1;have HLK:=zH hlink;have HQ:=zH (zA r3 (zA (q2.trans g3) hm1));clear q1 q2 r3 g3 hm1 hlink)|(go_at_call 215;refine HLK.out.mono ?_;rintro e w' ⟨rfl,rfl⟩))
  go_ret2
  exact⟨rfl,_,⟨⟨_,_,_,rfl⟩,HQ.out.2.2⟩,HQ.out.1,HQ.out.2.1⟩
end Go.Proofs.YtiimlopcifljeaaGreatDoor.Em
