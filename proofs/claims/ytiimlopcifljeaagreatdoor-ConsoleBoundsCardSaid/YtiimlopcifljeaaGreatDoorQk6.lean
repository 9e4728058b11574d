import Derived.Test.YtiimlopcifljeaaGreatDoorQk4
import Derived.Test.YtiimlopcifljeaaGreatDoorQk5
namespace Go.Proofs.YtiimlopcifljeaaGreatDoor.Em
open Go.ChangeShapes Go.WideShapes Go.ChangeAt Go.RowKit En
set_option linter.unusedVariables false
set_option linter.unusedSimpArgs false
set_option maxRecDepth 100000
set_option maxHeartbeats 1600000
variable {A:Book} {σ:St} {w:World}
theorem Grow.setNew {L L':Lab} {w w':World} (g:Grow L w L' w') {a:Addr} (h:w.heap.size≤a.block) (v:Value):Grow L w L' (w'.setCell a v):=
 ⟨g.os,g.tape,g.output,by simpa [World.setCell] using g.size,fun b hb hl=>(Below.heap_setCell _ _ _ _ (by omega)).trans (g.block b hb hl),g.lab,fun b hb hl=>(Below.heap_setCell _ _ _ _ (by omega)).trans (g.keep b hb hl)⟩
theorem Rep.setNew {A A1:Book} {σ σ1:St} {w w1:World} (hR:Rep A σ w) (h1:Rep A1 σ1 w1) (g:Grow A.L w A1.L w1) (ht:σ1.tale=σ.tale) (hcs:A1.taleCs=A.taleCs) {a:Addr} (hb:w.heap.size≤a.block) (hl:A1.L a.block=none) (v:Value):
 Rep A1 σ1 (w1.setCell a v)∧Grow A.L w A1.L (w1.setCell a v):=
 ⟨⟨h1.mem.setNone hl v,by rw[ht,hcs];exact hR.ev.grow (g.setNew hb v),h1.sl,h1.nw,h1.nt,h1.nv,h1.n8,h1.nc⟩,g.setNew hb v⟩
theorem Fix.setOther {L:Lab} {w:World} {b:Nat} {o:Obj} (h:Fix L w b o) {a:Addr} (hne:b≠a.block) (v:Value):Fix L (w.setCell a v) b o:=⟨h.1,(Below.heap_setCell _ _ _ _ hne).trans h.2⟩
theorem Fix.setSame {L:Lab} {w:World} {b:Nat} {u:Value} {T:TypeId} (h:Fix L w b (.cells #[u] T)) (v:Value):Fix L (w.setCell ⟨b,0,none⟩ v) b (.cells #[v] T):=by
 refine⟨h.1,?_⟩;have:=h.2;simp only[World.setCell,Array.getElem?_modify,this];simp
theorem Fix.frozen {L:Lab} {w:World} {b:Nat} {cs:Array Value} {T:TypeId} (h:Fix L w b (.cells cs T)) (i:Nat):w.frozen? ⟨b,i,none⟩=false:=by
 unfold World.frozen?
 simp only[h.2];simp
theorem take_VL {σ:St} {l:Nat} (hfree:∀ i∈σ.list.free,i<σ.slots) (hs:σ.slots≤256) (htag:∀ i,i<σ.slots→(σ.tags.getD i (0,false)).1≤65535) (h:σ.take.2=some l):VL σ.take.1 l∧σ.take.1.slots=σ.slots:=by
 have hsl:σ.list.slots=σ.slots:=by unfold St.list;split<;>rfl
 have htg:σ.list.tags=σ.tags:=by unfold St.list;split<;>rfl
 cases hlast:σ.list.free.getLast? with
 |none=>rw[take_none hlast] at h;cases h
 |some i=>
  rw[take_some hlast] at h ⊢;have hi:=hfree i (List.mem_of_getLast? hlast);have ht:=htag i hi;simp only[Option.some.injEq] at h;subst h;refine⟨⟨?_,?_,?_⟩,hsl⟩
  all_goals
   unfold St.linkAt linkOf;rw[htg]
   first|omega|(dsimp only;omega)
def _root_.Go.Proofs.YtiimlopcifljeaaGreatDoor.En.St.lay (σ:St) (s l:Nat):St:={σ with values:=σ.values.set (slotOf l) ((σ.c s).op.key,(σ.c s).op.value)}
theorem slot_zero_none {σ:St} {s:Nat} {x:Bool} {head:Nat} (h:σ.take.2=none):σ.slot s x 0 head=(σ.take.1,.abort 14 5):=by
 unfold St.slot;simp only[if_pos];generalize σ.take=p at *;obtain⟨a,b⟩:=p;simp only at h;subst h;rfl
theorem slot_zero_some {σ:St} {s:Nat} {x:Bool} {head l:Nat} (h:σ.take.2=some l):σ.slot s x 0 head=(σ.take.1.lay s l,.slotB x l head):=by
 unfold St.slot;simp only[if_pos];generalize σ.take=p at *;obtain⟨a,b⟩:=p;simp only at h;subst h;rfl
theorem slot_link {σ:St} {s:Nat} {x:Bool} {head l:Nat} (h:l≠0):σ.slot s x l head=(σ.lay s l,.slotB x l head):=by
 unfold St.slot;rw[if_neg h];rfl
theorem lay_any (hR:Rep A σ w) (s:Nat) (c:Cal) (hc:σ.calls.getD s none=some c) (l:Nat) (hv:VL σ l):
 w.there A.bv (2*slotOf l) 2∧Rep A (σ.lay s l) (w.setCells A.bv (2*slotOf l) [zi (c.op.key:Int),zi (c.op.value:Int)])∧Grow A.L w A.L (w.setCells A.bv (2*slotOf l) [zi (c.op.key:Int),zi (c.op.value:Int)]):=by
 obtain⟨r1,g1⟩:=hR.valLay (slotOf_lt hv) c.op.key c.op.value;refine⟨fun j hj=>⟨?_,hR.valF _⟩,by unfold St.lay;rw[call_get hc];exact r1,g1⟩
 match j,hj with
 |0,_=>rw[Nat.add_zero,(hR.val (slotOf_lt hv)).1];rfl
 |1,_=>rw[(hR.val (slotOf_lt hv)).2];rfl
theorem slot_tells (hR:Rep A σ w) (s:Nat) (c:Cal) (hc:σ.calls.getD s none=some c) (x:Bool) (link head:Nat) (hv:Value) (hh:FRow A.L w 1 hv (if x then [] else [u64 head])) (hv0:link=0∨VL σ link)
 (hm:A.mp=0) (hn:σ.free.length<100000) (hfree:∀ i∈σ.list.free,i<σ.slots) (htag:∀ i,i<σ.slots→(σ.tags.getD i (0,false)).1≤65535):
 Calls Tryz.prog 249 #[.pointer (some ⟨A.be,0,none⟩),.pointer (some ⟨A.bt s,0,none⟩),.pointer (some ⟨A.bc s,0,none⟩),(kp A σ s).xo x,zu (link:Int),hv] w (Tells A w s (σ.slot s x link head)):=by
 obtain⟨px,hx⟩:∃ px,(kp A σ s).xo x=.pointer px:=by unfold KP.xo;split<;>exact⟨_,rfl⟩
 obtain⟨ha,hn1,hcap,hve⟩:∃ a n cap,hv=.slice a n cap:=⟨_,_,_,hh.choose_spec.choose_spec.choose_spec.1⟩
 rw[hx];subst hve;obtain⟨r6,g6,f0,f1,f2,f3,f4,f5⟩:=allocs6 hR #[.pointer (some ⟨A.be,0,none⟩)] 85 #[.pointer (some ⟨A.bt s,0,none⟩)] 123 #[.pointer (some ⟨A.bc s,0,none⟩)] 125 #[.pointer px] 322 #[zu (link:Int)] 33 #[.slice ha hn1 hcap] 381;have hh6:=hh.grow g6;have k0:=f0.cell 0 rfl;have k1:=f1.cell 0 rfl;have k2:=f2.cell 0 rfl;have k4:=f4.cell 0 rfl
 by_cases h0:link=0
 · have hslots:σ.take.1.slots=σ.slots:=by unfold St.take;simp only;split<;>(unfold St.list;split<;>rfl)
   have htale:σ.take.1.tale=σ.tale:=by unfold St.take;simp only;split<;>(unfold St.list;split<;>rfl)
   have hcalls:σ.take.1.calls=σ.calls:=by unfold St.take;simp only;split<;>(unfold St.list;split<;>rfl)
   have e3:=r6.eng 3 (v:=.pointer (some ⟨A.bp,0,none⟩)) rfl;have hz:((link:Int)==0)=true:=by simpa using h0
   have hz2:((link:Int)=0)=True:=by simpa using h0
   have HT:=zH (take_any r6 hm hn hfree htag);have FACT:∀ L1 v1 m1 w1,Rep {A with L:=L1,vfree:=v1,mp:=m1} σ.take.1 w1→Grow A.L ((((((w.alloc (.cells #[.pointer (some ⟨A.be,0,none⟩)] 85)).alloc (.cells #[.pointer (some ⟨A.bt s,0,none⟩)] 123)).alloc (.cells #[.pointer (some ⟨A.bc s,0,none⟩)] 125)).alloc (.cells #[.pointer px] 322)).alloc (.cells #[zu (link:Int)] 33)).alloc (.cells #[.slice ha hn1 hcap] 381)) L1 w1→∀ l:Nat,w1.cell? ⟨w.heap.size,0,none⟩=some (.pointer (some ⟨A.be,0,none⟩))∧w1.cell? ⟨w.heap.size+4,0,none⟩=some (zu (link:Int))∧w1.frozen? ⟨w.heap.size+4,0,none⟩=false∧
    (w1.setCell ⟨w.heap.size+4,0,none⟩ (zu (l:Int))).cell? ⟨w.heap.size,0,none⟩=some (.pointer (some ⟨A.be,0,none⟩))∧(w1.setCell ⟨w.heap.size+4,0,none⟩ (zu (l:Int))).cell? ⟨w.heap.size+1,0,none⟩=some (.pointer (some ⟨A.bt s,0,none⟩))∧(w1.setCell ⟨w.heap.size+4,0,none⟩ (zu (l:Int))).cell? ⟨w.heap.size+2,0,none⟩=some (.pointer (some ⟨A.bc s,0,none⟩))∧(w1.setCell ⟨w.heap.size+4,0,none⟩ (zu (l:Int))).cell? ⟨w.heap.size+4,0,none⟩=some (zu (l:Int))∧
    (w1.setCell ⟨w.heap.size+4,0,none⟩ (zu (l:Int))).cell? ⟨A.bc s,1,none⟩=some (zi (c.op.key:Int))∧(w1.setCell ⟨w.heap.size+4,0,none⟩ (zu (l:Int))).cell? ⟨A.bc s,3,none⟩=some (zi (c.op.value:Int))∧
    Rep {A with L:=L1,vfree:=v1,mp:=m1} σ.take.1 (w1.setCell ⟨w.heap.size+4,0,none⟩ (zu (l:Int)))∧Grow A.L w L1 (w1.setCell ⟨w.heap.size+4,0,none⟩ (zu (l:Int)))∧
    Box L1 (w1.setCell ⟨w.heap.size+4,0,none⟩ (zu (l:Int))) w.heap.size (.pointer (some ⟨A.be,0,none⟩))∧Box L1 (w1.setCell ⟨w.heap.size+4,0,none⟩ (zu (l:Int))) (w.heap.size+4) (zu (l:Int))∧Box L1 (w1.setCell ⟨w.heap.size+4,0,none⟩ (zu (l:Int))) (w.heap.size+1) (.pointer (some ⟨A.bt s,0,none⟩))∧Box L1 (w1.setCell ⟨w.heap.size+4,0,none⟩ (zu (l:Int))) (w.heap.size+3) (.pointer px)∧Box L1 (w1.setCell ⟨w.heap.size+4,0,none⟩ (zu (l:Int))) (w.heap.size+2) (.pointer (some ⟨A.bc s,0,none⟩))∧Box L1 (w1.setCell ⟨w.heap.size+4,0,none⟩ (zu (l:Int))) (w.heap.size+5) (.slice ha hn1 hcap)∧FRow L1 (w1.setCell ⟨w.heap.size+4,0,none⟩ (zu (l:Int))) 1 (.slice ha hn1 hcap) (if x then [] else [u64 head]):=by
    intro L1 v1 m1 w1 q1 q2 l;have j0:=f0.grow q2;have j1:=f1.grow q2;have j2:=f2.grow q2;have j3:=f3.grow q2;have j4:=f4.grow q2;have j5:=f5.grow q2;obtain⟨r7,g7⟩:=hR.setNew q1 (g6.trans q2) htale rfl (a:=⟨w.heap.size+4,0,none⟩) (by show w.heap.size≤w.heap.size+4;omega) j4.1 (zu (l:Int));have i0:=j0.setOther (a:=⟨w.heap.size+4,0,none⟩) (by show w.heap.size≠w.heap.size+4;omega) (zu (l:Int));have i1:=j1.setOther (a:=⟨w.heap.size+4,0,none⟩) (by show w.heap.size+1≠w.heap.size+4;omega) (zu (l:Int));have i2:=j2.setOther (a:=⟨w.heap.size+4,0,none⟩) (by show w.heap.size+2≠w.heap.size+4;omega) (zu (l:Int));have i3:=j3.setOther (a:=⟨w.heap.size+4,0,none⟩) (by show w.heap.size+3≠w.heap.size+4;omega) (zu (l:Int));have i4:=j4.setSame (zu (l:Int));have i5:=j5.setOther (a:=⟨w.heap.size+4,0,none⟩) (by show w.heap.size+5≠w.heap.size+4;omega) (zu (l:Int));have hc1:σ.take.1.calls.getD s none=some c:=by rw[hcalls];exact hc
    exact⟨j0.cell 0 rfl,j4.cell 0 rfl,j4.frozen 0,i0.cell 0 rfl,i1.cell 0 rfl,i2.cell 0 rfl,i4.cell 0 rfl,r7.call hc1 1 rfl,r7.call hc1 3 rfl,r7,g7,i0.box,i4.box,i1.box,i3.box,i2.box,i5.box,hh.grow g7⟩
   have hc1:σ.take.1.calls.getD s none=some c:=by rw[hcalls];exact hc
   cases ht:σ.take.2 with
   |none=>
    have e:σ.slot s x link head=(σ.take.1,.abort 14 5):=by rw[h0];exact slot_zero_none ht
    rw[e];rw[ht,show takeVal none=.tuple #[zu 0,zi 15] from rfl] at HT;have HF:=zH FACT;clear hR hh hv0 hm hn hfree htag r6 g6 f0 f1 f2 f3 f4 f5 hh6 h0 e ht FACT hslots htale hcalls hc1 hc;generalize σ.take.1=σ1 at*;go_enter Tryz.func249,Tryz.ntmps249;go_wp2_with (first|(go_at_call 278;refine HT.out.mono ?_;rintro e w1 ⟨rfl,A1,⟨⟨L1,v1,m1,rfl⟩,hm1⟩,q1,q2⟩;obtain⟨c0,c4,z4,n0,n1,n2,n4,n5,n6,r7,g7,hb⟩:=HF.out L1 v1 m1 w1 q1 q2 0;rw[show ((0:Nat):Int)=0 from rfl] at n0 n1 n2 n4 n5 n6 r7 g7;have HA:=zH (abort_any r7 s 14 5);have HG:=zH (zA g7 hm1);clear q1 q2 r7 g7 hb hm1)|(go_at_call 170;refine HA.out.mono ?_;rintro e w2 ⟨A2,v,rfl,p1,p2,p3,p4⟩));go_ret;have hst:Stay A {A with L:=L1,vfree:=v1,mp:=m1} s:=⟨rfl,rfl,rfl,rfl,rfl,rfl,rfl,rfl,rfl,HG.out.2,rfl,fun _ _=>rfl,fun _ _=>rfl⟩
    exact⟨A2,v,rfl,p1,HG.out.1.trans p2,hst.trans p3,p4⟩
   |some l=>
    have e:σ.slot s x link head=(σ.take.1.lay s l,.slotB x l head):=by rw[h0];exact slot_zero_some ht
    rw[e];rw[ht,show takeVal (some l)=.tuple #[zu (l:Int),zi 0] from rfl] at HT;have hvl:VL σ.take.1 l:=(take_VL hfree (by have:=hR.sl;omega) htag ht).1;have FIN:∀ L1 v1 m1 ws,Rep {A with L:=L1,vfree:=v1,mp:=m1} σ.take.1 ws→Grow A.L w L1 ws→Calls Tryz.prog 81 #[.pointer (some ⟨A.be,0,none⟩),zu (l:Int)] ws.drew (fun e w'=>e=.returned (.pointer (some ⟨A.bv,2*slotOf l,none⟩))∧w'=ws.drew)∧ws.drew.there A.bv (2*slotOf l) 2∧(∀ w',World.setCells ws.drew A.bv (2*slotOf l) [zi (c.op.key:Int),zi (c.op.value:Int)]=w'→Rep {A with L:=L1,vfree:=v1,mp:=m1} (σ.take.1.lay s l) w'∧Grow A.L w L1 w'∧Grow L1 ws L1 w'):=by
     intro L1 v1 m1 ws r7 g7;obtain⟨t1,t2,t3⟩:=lay_any r7.drew s c hc1 l hvl;refine⟨flip (data_any r7.drew l hvl.lo hvl.hi hvl.u),t1,?_⟩;rintro w' rfl;have gd:Grow L1 ws L1 ws.drew:=Grow.drew _ _;exact⟨t2,(g7.trans gd).trans t3,gd.trans t3⟩
    have HF:=zH FACT;have HN:=zH FIN;have hx':(kp A σ.take.1 s).xo x=.pointer px:=by
     rw[show kp A σ.take.1 s=kp A σ s by unfold kp St.c;rw[hcalls]];exact hx
    have HX:=zH hx';clear hR hh hv0 hm hn hfree htag r6 g6 f0 f1 f2 f3 f4 f5 hh6 h0 e ht FACT hslots htale hcalls hc1 hc hvl FIN hx hx';generalize σ.take.1=σ1 at*;go_enter Tryz.func249,Tryz.ntmps249;go_wp2_with (go_at_call 278;refine HT.out.mono ?_;rintro e w1 ⟨rfl,A1,⟨⟨L1,v1,m1,rfl⟩,hm1⟩,q1,q2⟩;obtain⟨c0,c4,z4,n0,n1,n2,n4,n5,n6,r7,g7,hb⟩:=HF.out L1 v1 m1 w1 q1 q2 l;have HG:=zH (zA r7 (zA g7 (zA hm1 hb)));clear q1 q2 r7 g7 hb hm1);generalize hws:World.setCell _ _ _=ws at*;obtain⟨d0,d1,d2⟩:=HN.out L1 v1 m1 ws HG.out.1 HG.out.2.1;have HD:=zH d0;clear HT;have HT:=zH d1;have HLY:=zH d2;clear d0 d1 d2 HF HN hws;refine wp_region_still_tail 15 (by kernel_rfl) (by kernel_rfl) ?_;simp only[zta,ztb,ztc,ztd]
    repeat still_step
    still_call HD.out
    repeat still_step
    refine wpStill_nil ?_;change wpList _ _ _ _ _ ws.drew;generalize ws.drew=wd at*;go_wp2_with (refine wpList_store_mid rfl 176 (.tmp 44) (.tmp 43) rfl A.bv (2*slotOf l) #[zi (c.op.key:Int),zi (c.op.value:Int)] rfl rfl HT.out (by kernel_rfl) (by simp[Value.oneCell']) ?_;generalize hws:World.setCells _ _ _ _=ws;obtain⟨k1,k2⟩:=HLY.out ws hws;have HK:=zH (zA k1 k2);clear k1 k2 hws);go_ret;obtain⟨b0,b4,b1,b3,b2,b5,hrow⟩:=HG.out.2.2.2;obtain⟨r8,g8,g9⟩:=HK.out;exact⟨_,_,rfl,r8,g8,⟨rfl,rfl,rfl,rfl,rfl,rfl,rfl,rfl,rfl,HG.out.2.2.1,rfl,fun _ _=>rfl,fun _ _=>rfl⟩,_,_,_,_,_,_,rfl,b0.grow g9,b4.grow g9,b1.grow g9,by have:=b3.grow g9;rw[←HX.out] at this;exact this,b2.grow g9,_,b5.grow g9,hrow.grow g9⟩
 · have hvl:=hv0.resolve_left h0
   rw[slot_link h0];have d1:((link:Int)==0)=false:=by simpa using h0
   have d2:((link:Int)=0)=False:=by simpa using h0
   have q1:=r6.call hc 1 (v:=zi (c.op.key:Int)) rfl;have q3:=r6.call hc 3 (v:=zi (c.op.value:Int)) rfl;have HD:=zH (flip (data_any r6.drew link hvl.lo hvl.hi hvl.u));obtain⟨t1,t2,t3⟩:=lay_any r6.drew s c hc link hvl;have HT:=zH t1;have HLY:Hid (∀ ws,World.setCells ((((((w.alloc (.cells #[.pointer (some ⟨A.be,0,none⟩)] 85)).alloc (.cells #[.pointer (some ⟨A.bt s,0,none⟩)] 123)).alloc (.cells #[.pointer (some ⟨A.bc s,0,none⟩)] 125)).alloc (.cells #[.pointer px] 322)).alloc (.cells #[zu (link:Int)] 33)).alloc (.cells #[.slice ha hn1 hcap] 381)).drew A.bv (2*slotOf link) [zi (c.op.key:Int),zi (c.op.value:Int)]=ws→Rep A (σ.lay s link) ws∧Grow A.L ((((((w.alloc (.cells #[.pointer (some ⟨A.be,0,none⟩)] 85)).alloc (.cells #[.pointer (some ⟨A.bt s,0,none⟩)] 123)).alloc (.cells #[.pointer (some ⟨A.bc s,0,none⟩)] 125)).alloc (.cells #[.pointer px] 322)).alloc (.cells #[zu (link:Int)] 33)).alloc (.cells #[.slice ha hn1 hcap] 381)).drew A.L ws):=zH (by rintro ws rfl;exact⟨t2,t3⟩);have HB:=zH (zA (g6.trans (Grow.drew _ _)) (zA (zA f0 (zA f4 (zA f1 (zA f3 (zA f2 f5))))) (zA hh6 (Grow.drew A.L ((((((w.alloc (.cells #[.pointer (some ⟨A.be,0,none⟩)] 85)).alloc (.cells #[.pointer (some ⟨A.bt s,0,none⟩)] 123)).alloc (.cells #[.pointer (some ⟨A.bc s,0,none⟩)] 125)).alloc (.cells #[.pointer px] 322)).alloc (.cells #[zu (link:Int)] 33)).alloc (.cells #[.slice ha hn1 hcap] 381))))));clear hR hh hv0 hm hn hfree htag r6 g6 f0 f1 f2 f3 f4 f5 hh6 hvl h0 t1 t2 t3;go_enter Tryz.func249,Tryz.ntmps249;go_wp2_with fail;generalize ((((((w.alloc (.cells #[.pointer (some ⟨A.be,0,none⟩)] 85)).alloc (.cells #[.pointer (some ⟨A.bt s,0,none⟩)] 123)).alloc (.cells #[.pointer (some ⟨A.bc s,0,none⟩)] 125)).alloc (.cells #[.pointer px] 322)).alloc (.cells #[zu (link:Int)] 33)).alloc (.cells #[.slice ha hn1 hcap] 381))=w6 at*;refine wp_region_still_tail 15 (by kernel_rfl) (by kernel_rfl) ?_;simp only[zta,ztb,ztc,ztd]
   repeat still_step
   still_call HD.out
   repeat still_step
   refine wpStill_nil ?_;change wpList _ _ _ _ _ w6.drew;generalize w6.drew=wd at*;go_wp2_with (refine wpList_store_mid rfl 176 (.tmp 44) (.tmp 43) rfl A.bv (2*slotOf link) #[zi (c.op.key:Int),zi (c.op.value:Int)] rfl rfl HT.out (by kernel_rfl) (by simp[Value.oneCell']) ?_;generalize hws:World.setCells _ _ _ _=ws;obtain⟨k1,k2⟩:=HLY.out ws hws;have HK:=zH (zA k1 k2);clear k1 k2 hws);go_ret;obtain⟨g7,⟨f0,f4,f1,f3,f2,f5⟩,hh6,gd⟩:=HB.out;obtain⟨r8,g8⟩:=HK.out;have g9:=gd.trans g8;exact⟨A,_,rfl,r8,g7.trans g8,Stay.refl _ _,_,_,_,_,_,_,rfl,(f0.grow g9).box,(f4.grow g9).box,(f1.grow g9).box,hx ▸ (f3.grow g9).box,(f2.grow g9).box,_,(f5.grow g9).box,hh6.grow g9⟩
theorem free_any (hR:Rep A σ w) (s:Nat) (c:Cal) (hc:σ.calls.getD s none=some c) (link head at_:Nat) (hv0:link=0∨VL σ link)
 (hm:A.mp=0) (hn:σ.free.length<100000) (hfree:∀ i∈σ.list.free,i<σ.slots) (htag:∀ i,i<σ.slots→(σ.tags.getD i (0,false)).1≤65535):
 Calls Tryz.prog 252 #[.pointer (some ⟨A.be,0,none⟩),.pointer (some ⟨A.bt s,0,none⟩),.pointer (some ⟨A.bc s,0,none⟩),zu (link:Int),zu (head:Int),zu (at_:Int)] w (Tells A w s (σ.freeK s link head at_)):=by
 obtain⟨r6,g6,f0,f1,f2,f3,f4,f5⟩:=allocs6 hR #[.pointer (some ⟨A.be,0,none⟩)] 85 #[.pointer (some ⟨A.bt s,0,none⟩)] 123 #[.pointer (some ⟨A.bc s,0,none⟩)] 125 #[zu (link:Int)] 33 #[zu (head:Int)] 33 #[zu (at_:Int)] 33;have k0:=f0.cell 0 rfl;have k1:=f1.cell 0 rfl;have k2:=f2.cell 0 rfl;have k3:=f3.cell 0 rfl;have k4:=f4.cell 0 rfl;have k5:=f5.cell 0 rfl;unfold St.freeK
 by_cases h0:at_=0
 · rw[if_pos h0]
   have d1:((at_:Int)==0)=true:=by simpa using h0
   have d2:((at_:Int)=0)=True:=by simpa using h0
   obtain⟨r7,g7,f6⟩:=allocs1 r6 #[zu (head:Int)] 33;have hrow:FRow A.L (((((((w.alloc (.cells #[.pointer (some ⟨A.be,0,none⟩)] 85)).alloc (.cells #[.pointer (some ⟨A.bt s,0,none⟩)] 123)).alloc (.cells #[.pointer (some ⟨A.bc s,0,none⟩)] 125)).alloc (.cells #[zu (link:Int)] 33)).alloc (.cells #[zu (head:Int)] 33)).alloc (.cells #[zu (at_:Int)] 33)).alloc (.cells #[zu (head:Int)] 33)) 1 (.slice (some ⟨w.heap.size+6,0,none⟩) 1 1) (if false then [] else [u64 head]):=by
    rw[show ((((((w.alloc (.cells #[.pointer (some ⟨A.be,0,none⟩)] 85)).alloc (.cells #[.pointer (some ⟨A.bt s,0,none⟩)] 123)).alloc (.cells #[.pointer (some ⟨A.bc s,0,none⟩)] 125)).alloc (.cells #[zu (link:Int)] 33)).alloc (.cells #[zu (head:Int)] 33)).alloc (.cells #[zu (at_:Int)] 33)).heap.size=w.heap.size+6 by simp] at f6;refine⟨_,_,_,rfl,rfl,by omega,by unfold maxLen;omega,.inr ⟨_,0,rfl,f6.1,?_,?_⟩⟩
    · simp
    · intro j hj
      have hj0:j=0:=by omega
      subst hj0;exact f6.cell 0 rfl
   have HS:=zH (slot_tells r7 s c hc false link head _ hrow hv0 hm hn hfree htag);have HG:=zH (g6.trans g7);clear hR hc hv0 hm hn hfree htag h0 hrow r6 g6 r7 g7 f0 f1 f2 f3 f4 f5 f6;go_enter Tryz.func252,Tryz.ntmps252;go_wp2_with (go_at_call 249;refine HS.out.mono ?_;rintro e w2 ⟨A2,v,rfl,p1,p2,p3,p4⟩);go_ret;exact⟨A2,v,rfl,p1,HG.out.trans p2,p3,p4⟩
 · rw[if_neg h0]
   have d1:((at_:Int)==0)=false:=by simpa using h0
   have d2:((at_:Int)=0)=False:=by simpa using h0
   obtain⟨r7,g7,f6⟩:=allocs1 r6 #[.func (.func 283) #[] #[.pointer (some ⟨w.heap.size,0,none⟩),.pointer (some ⟨w.heap.size+1,0,none⟩),.pointer (some ⟨w.heap.size+2,0,none⟩),.pointer (some ⟨w.heap.size+3,0,none⟩),.pointer (some ⟨w.heap.size+4,0,none⟩),.pointer (some ⟨w.heap.size+5,0,none⟩)]] 234;have HG:=zH (zA r7 (zA (g6.trans g7) (zA (f0.grow g7).box (zA (f1.grow g7).box (zA (f2.grow g7).box (zA (f3.grow g7).box (zA (f4.grow g7).box (zA (f5.grow g7).box f6.box))))))));clear hR hc hv0 hm hn hfree htag h0 r6 g6 r7 g7 f0 f1 f2 f3 f4 f5 f6;go_enter Tryz.func252,Tryz.ntmps252;go_wp2;go_ret;obtain⟨r7,g7,f0,f1,f2,f3,f4,f5,f6⟩:=HG.out;have hsz:((((((w.alloc (.cells #[.pointer (some ⟨A.be,0,none⟩)] 85)).alloc (.cells #[.pointer (some ⟨A.bt s,0,none⟩)] 123)).alloc (.cells #[.pointer (some ⟨A.bc s,0,none⟩)] 125)).alloc (.cells #[zu (link:Int)] 33)).alloc (.cells #[zu (head:Int)] 33)).alloc (.cells #[zu (at_:Int)] 33)).heap.size=w.heap.size+6:=by simp
   rw[hsz] at f6;exact⟨A,_,rfl,r7,g7,Stay.refl _ _,_,_,_,_,_,_,rfl,f0,f5,f1,⟨_,f6,_,_,_,_,_,_,rfl,f0,f1,f2,f3,f4,f5⟩,f2,f3⟩
structure PoolOk (σ:St):Prop where
 n:σ.free.length<100000
 free:∀ i∈σ.free,i<σ.slots
 tag:∀ i,i<σ.slots→(σ.tags.getD i (0,false)).1≤65535
 worn:σ.worn<1000000
theorem PoolOk.list {σ:St} (h:PoolOk σ):∀ i∈σ.list.free,i<σ.slots:=by
 unfold St.list
 split
 · exact h.free
 · intro i hi
   rcases List.mem_append.1 hi with h1|h1
   · exact h.free i h1
   · simpa using h1
theorem load_i (h:Rep A σ w) (i:Nat) (z:Int) (hz:z=(i:Int)) (hi:i<σ.words.length) (hc:σ.count<4000000000000000000):
 Calls Tryz.prog 66 #[.pointer (some ⟨A.ba,0,none⟩),zi z] w (Did A w σ.tick (zu (σ.word i:Int))):=by subst hz;exact load_any h i hi hc
theorem k_fresh (hR:Rep A σ w) (s:Nat) (c:Cal) (hc:σ.calls.getD s none=some c) (link:Nat) (hv0:link=0∨VL σ link) (hk:c.op.key<64) (hm:A.mp=0) (hp:PoolOk σ) (hcnt:σ.count<4000000000000000000)
 (b0 b1 b2 b3:Nat) (B0:Box A.L w b0 (.pointer (some ⟨A.be,0,none⟩))) (B1:Box A.L w b1 (.pointer (some ⟨A.bc s,0,none⟩))) (B2:Box A.L w b2 (.pointer (some ⟨A.bt s,0,none⟩))) (B3:Box A.L w b3 (zu (link:Int))):
 Calls Tryz.prog 251 #[.pointer (some ⟨b0,0,none⟩),.pointer (some ⟨b1,0,none⟩),.pointer (some ⟨b2,0,none⟩),.pointer (some ⟨b3,0,none⟩)] w (Ran A w s (σ.run s (.fresh link))):=by
 have c0:=B0.cell;have c1:=B1.cell;have e2:=hR.z2;have k1:w.cell? ⟨A.bc s,1,none⟩=some (zi (c.op.key:Int)):=hR.call hc 1 rfl;have n1:IntKind.i64.wrap (9+(c.op.key:Int))=9+(c.op.key:Int):=by rw[IntKind.wrap_i64];omega
 have HL:=zH (load_i hR.drew (9+c.op.key) (9+(c.op.key:Int)) (by omega) (by rw[hR.nw];omega) hcnt);have hrun:σ.run s (.fresh link)=(((σ.tick.freeK s link (σ.word (9+c.op.key)) (σ.word (9+c.op.key)))).1,some ((σ.tick.freeK s link (σ.word (9+c.op.key)) (σ.word (9+c.op.key)))).2):=by
  simp only[St.run,call_get hc]
 rw[hrun];have HB:Hid (∀ w1,Rep A σ.tick w1→Grow A.L w.drew A.L w1→Calls Tryz.prog 252 #[.pointer (some ⟨A.be,0,none⟩),.pointer (some ⟨A.bt s,0,none⟩),.pointer (some ⟨A.bc s,0,none⟩),zu (link:Int),zu (σ.word (9+c.op.key):Int),zu (σ.word (9+c.op.key):Int)] w1 (Tells A w1 s (σ.tick.freeK s link (σ.word (9+c.op.key)) (σ.word (9+c.op.key))))∧w1.cell? ⟨b0,0,none⟩=some (.pointer (some ⟨A.be,0,none⟩))∧w1.cell? ⟨b1,0,none⟩=some (.pointer (some ⟨A.bc s,0,none⟩))∧w1.cell? ⟨b2,0,none⟩=some (.pointer (some ⟨A.bt s,0,none⟩))∧w1.cell? ⟨b3,0,none⟩=some (zu (link:Int))∧Grow A.L w A.L w1):=by
  intro w1 q1 q2;have g:Grow A.L w A.L w1:=(Grow.drew _ _).trans q2;exact⟨free_any q1 s c hc link _ _ (hv0.imp id fun h=>⟨h.lo,h.hi,h.u⟩) hm hp.n (PoolOk.list (σ:=σ.tick) ⟨hp.n,hp.free,hp.tag,hp.worn⟩) hp.tag,(B0.grow g).cell,(B1.grow g).cell,(B2.grow g).cell,(B3.grow g).cell,g⟩
 clear hR hc hv0 hm hp hcnt B0 B1 B2 B3 hrun hk;generalize σ.tick.freeK s link (σ.word (9+c.op.key)) (σ.word (9+c.op.key))=res at*;generalize σ.word (9+c.op.key)=hd at*;generalize c.op.key=key at*;go_enter Tryz.func251,Tryz.ntmps251;go_wp2_with fail;refine wp_region_still_tail 10 (by kernel_rfl) (by kernel_rfl) ?_;simp only[zta,ztb,ztc,ztd]
 repeat still_step
 refine wpStill_nil ?_;change wpList _ _ _ _ _ w.drew;generalize w.drew=wd at*;go_wp2_with (first|(go_at_call 66;refine HL.out.mono ?_;rintro e w1 ⟨rfl,q1,q2⟩;obtain⟨hf,d0,d1,d2,d3,g1⟩:=HB.out w1 q1 q2;have HF:=zH (zA hf g1);clear q1 q2 hf g1)|(go_at_call 252;refine HF.out.1.mono ?_;rintro e w2 ⟨A2,v,rfl,p1,p2,p3,p4⟩));go_ret;exact⟨A2,v,rfl,p1,HF.out.2.trans p2,p3,p4⟩
theorem k_next (hR:Rep A σ w) (s:Nat) (c:Cal) (hc:σ.calls.getD s none=some c) (link head at_:Nat) (hv0:link=0∨VL σ link) (hv:VL σ at_) (hm:A.mp=0) (hp:PoolOk σ) (hcnt:σ.count<4000000000000000000)
 (b0 b1 b2 b3 b4 b5:Nat) (B0:Box A.L w b0 (.pointer (some ⟨A.be,0,none⟩))) (B1:Box A.L w b1 (.pointer (some ⟨A.bt s,0,none⟩))) (B2:Box A.L w b2 (.pointer (some ⟨A.bc s,0,none⟩))) (B3:Box A.L w b3 (zu (link:Int))) (B4:Box A.L w b4 (zu (head:Int))) (B5:Box A.L w b5 (zu (at_:Int))):
 Calls Tryz.prog 283 #[.pointer (some ⟨b0,0,none⟩),.pointer (some ⟨b1,0,none⟩),.pointer (some ⟨b2,0,none⟩),.pointer (some ⟨b3,0,none⟩),.pointer (some ⟨b4,0,none⟩),.pointer (some ⟨b5,0,none⟩)] w (Ran A w s (σ.run s (.next link head at_))):=by
 have c0:=B0.cell;have c1:=B1.cell;have c2:=B2.cell;have c3:=B3.cell;have c4:=B4.cell;have c5:=B5.cell;have hsl:=hR.sl;have e2:=hR.z2;have HS:=zH (slot_at at_ 2 2 rfl hv.lo (by have:=hv.hi;omega) hv.u (by omega));have HL:=zH (load_any hR.drew (wslot at_ 2) (wslot_lt hR hv.lo hv.hi (by omega)) hcnt);have HG:=zG A.L w;have HK:Hid (∀ w',Kp A w w'→w'.cell? ⟨b0,0,none⟩=some (.pointer (some ⟨A.be,0,none⟩))∧w'.cell? ⟨b1,0,none⟩=some (.pointer (some ⟨A.bt s,0,none⟩))∧w'.cell? ⟨b2,0,none⟩=some (.pointer (some ⟨A.bc s,0,none⟩))∧w'.cell? ⟨b3,0,none⟩=some (zu (link:Int))∧w'.cell? ⟨b4,0,none⟩=some (zu (head:Int))∧w'.cell? ⟨b5,0,none⟩=some (zu (at_:Int))∧w'.cell? ⟨A.be,2,none⟩=some (.pointer (some ⟨A.ba,0,none⟩))):=by
  obtain⟨_,x0⟩:=B0;obtain⟨_,x1⟩:=B1;obtain⟨_,x2⟩:=B2;obtain⟨_,x3⟩:=B3;obtain⟨_,x4⟩:=B4;obtain⟨_,x5⟩:=B5;exact fun w' k=>⟨k.fix _ _ _ x0.1 c0,k.fix _ _ _ x1.1 c1,k.fix _ _ _ x2.1 c2,k.fix _ _ _ x3.1 c3,k.fix _ _ _ x4.1 c4,k.fix _ _ _ x5.1 c5,k.ea⟩
 have hrun:σ.run s (.next link head at_)=((σ.tick.freeK s link head (σ.word (wslot at_ 2))).1,some (σ.tick.freeK s link head (σ.word (wslot at_ 2))).2):=rfl;rw[hrun];have HB:Hid (∀ w1,Rep A σ.tick w1→Calls Tryz.prog 252 #[.pointer (some ⟨A.be,0,none⟩),.pointer (some ⟨A.bt s,0,none⟩),.pointer (some ⟨A.bc s,0,none⟩),zu (link:Int),zu (head:Int),zu (σ.word (wslot at_ 2):Int)] w1 (Tells A w1 s (σ.tick.freeK s link head (σ.word (wslot at_ 2))))):=
  fun w1 q1=>free_any q1 s c hc link _ _ (hv0.imp id fun h=>⟨h.lo,h.hi,h.u⟩) hm hp.n (PoolOk.list (σ:=σ.tick) ⟨hp.n,hp.free,hp.tag,hp.worn⟩) hp.tag
 clear hR hc hv0 hv hm hp hcnt B0 B1 B2 B3 B4 B5 hrun hsl;go_enter Tryz.func283,Tryz.ntmps283;go_wp2_with fail
 go_region_held3 (fun w'=>w'.cell? ⟨b0,0,none⟩=some (.pointer (some ⟨A.be,0,none⟩))∧w'.cell? ⟨b1,0,none⟩=some (.pointer (some ⟨A.bt s,0,none⟩))∧w'.cell? ⟨b2,0,none⟩=some (.pointer (some ⟨A.bc s,0,none⟩))∧w'.cell? ⟨b3,0,none⟩=some (zu (link:Int))∧w'.cell? ⟨b4,0,none⟩=some (zu (head:Int))∧w'.cell? ⟨b5,0,none⟩=some (zu (at_:Int))∧w'.cell? ⟨A.be,2,none⟩=some (.pointer (some ⟨A.ba,0,none⟩)))
  (first|exact⟨c0,c1,c2,c3,c4,c5,e2⟩|assumption|exact HK.out _ (Kp.of (by assumption) (by assumption) (by assumption)))
  (first|(go_at_call 79;refine (HS.out _).mono ?_;rintro e w' ⟨rfl,rfl⟩)|(go_at_call 66;refine HL.out.mono ?_;rintro e w1 ⟨rfl,q1,q2⟩;have q4:=HG.out.trans q2;have q3:=Stay.refl A s;clear q2)|(go_at_call 252;refine (HB.out _ (by assumption)).mono ?_;rintro e w2 ⟨A',v,rfl,p1,p2,p3,p4⟩;have p5:=(‹Grow A.L w A.L _›).trans p2))
 go_wp2_with fail;go_ret;exact⟨A',_,rfl,p1,p5,p3,p4⟩
theorem poolLive_eq {σ:St} {link:Nat} (hv:VL σ link):σ.poolLive link=((σ.tags.getD (slotOf link) (0,false)).2&&σ.linkAt (slotOf link)==link):=by
 unfold St.poolLive;have h1:decide (1≤link % 131072)=true:=by simpa using hv.lo
 have h2:decide (link % 131072≤σ.slots)=true:=by simpa using hv.hi
 rw[h1,h2,Bool.true_and,Bool.true_and]
theorem live_any (hR:Rep A σ w) (link:Nat) (hv:VL σ link) (htag:∀ i,i<σ.slots→(σ.tags.getD i (0,false)).1≤65535):
 Calls Tryz.prog 178 #[.pointer (some ⟨A.bp,0,none⟩),zu (link:Int)] w fun e w'=>e=.returned (.bool (σ.poolLive link))∧w=w':=by
 have hi:=slotOf_lt hv;have hu:=Word.unlink_any (link:Int) (by omega) (by have:=hv.u;omega) w;rw[←slotOf_cast hv.lo] at hu;have p0:w.cell? ⟨A.bp,0,none⟩=some (.slice (some ⟨A.bs,0,none⟩) σ.slots σ.slots):=hR.pool 0 rfl;have t1:=(hR.tag hi).2;rw[Nat.mul_comm] at t1;have hl:=link_any hR (slotOf link) hi (htag _ hi);have b0:(0:Int)≤(slotOf link:Int):=by omega
 have b1:(slotOf link:Int)<(σ.slots:Int):=by omega
 rw[poolLive_eq hv];have HU:=zH hu;have HL:=zH hl;clear hu hl hv htag hR hi;generalize slotOf link=i at*
 cases htk:(σ.tags.getD i (0,false)).2 with
 |false=>
  rw[htk] at t1;clear htk;go_enter Tryz.func178,Tryz.ntmps178;go_wp2_with (go_at_call 117;refine HU.out.mono ?_;rintro e w' ⟨rfl,rfl⟩);go_ret;exact⟨rfl,rfl⟩
 |true=>
  rw[htk] at t1;clear htk;rw[Bool.true_and];generalize σ.linkAt i=la at*
  by_cases he:la=link
  · have d1:((la:Int)==(link:Int))=true:=by simp;omega
    have d2:(la==link)=true:=by simp;omega
    rw[d2];have d3:((la:Int)=(link:Int))=True:=by simp;omega
    clear d2 he;go_enter Tryz.func178,Tryz.ntmps178;go_wp2_with (first|(go_at_call 117;refine HU.out.mono ?_;rintro e w' ⟨rfl,rfl⟩)|(go_at_call 215;refine HL.out.mono ?_;rintro e w' ⟨rfl,rfl⟩));go_ret;exact⟨rfl,rfl⟩
  · have d1:((la:Int)==(link:Int))=false:=by simp;omega
    have d2:(la==link)=false:=by simp;omega
    rw[d2];have d3:((la:Int)=(link:Int))=False:=by simp;omega
    clear d2 he;go_enter Tryz.func178,Tryz.ntmps178;go_wp2_with (first|(go_at_call 117;refine HU.out.mono ?_;rintro e w' ⟨rfl,rfl⟩)|(go_at_call 215;refine HL.out.mono ?_;rintro e w' ⟨rfl,rfl⟩));go_ret;exact⟨rfl,rfl⟩
end Go.Proofs.YtiimlopcifljeaaGreatDoor.Em
