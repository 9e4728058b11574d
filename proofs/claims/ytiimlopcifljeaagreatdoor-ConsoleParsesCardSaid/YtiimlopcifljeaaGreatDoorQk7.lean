import Derived.Test.YtiimlopcifljeaaGreatDoorQk6
namespace Go.Proofs.YtiimlopcifljeaaGreatDoor.Em
open Go.ChangeShapes Go.WideShapes Go.ChangeAt Go.RowKit En
set_option linter.unusedVariables false
set_option linter.unusedSimpArgs false
set_option maxRecDepth 100000
set_option maxHeartbeats 1600000
def Gave (A:Book) (w:World) (σ':St):Ending→World→Prop:=fun e w'=>(∃ z:Int,e=.returned (zi z))∧∃ A',FreeOnly A A'∧Rep A' σ' w'∧Grow A.L w A'.L w'
theorem give_off {σ:St} {link:Nat} (h:σ.poolLive link=false):σ.give link=σ:=by unfold St.give;rw[h];rfl
theorem give_worn {σ:St} {link:Nat} (h:σ.poolLive link=true) (ht:(σ.tags.getD (slotOf link) (0,false)).1=65535):σ.give link={σ with tags:=σ.tags.set (slotOf link) ((σ.tags.getD (slotOf link) (0,false)).1,false),worn:=σ.worn+1}:=by
 unfold St.give;rw[h];simp only[if_pos,ht]
theorem give_on {σ:St} {link:Nat} (h:σ.poolLive link=true) (ht:(σ.tags.getD (slotOf link) (0,false)).1≠65535):σ.give link={σ with tags:=σ.tags.set (slotOf link) ((σ.tags.getD (slotOf link) (0,false)).1+1,false),free:=σ.free++[slotOf link]}:=by
 unfold St.give;rw[h];simp only[if_pos,if_neg ht]
theorem give_any {A:Book} {σ:St} {w:World} (hR:Rep A σ w) (link:Nat) (hv:VL σ link) (hp:PoolOk σ):
 Calls Tryz.prog 152 #[.pointer (some ⟨A.bp,0,none⟩),zu (link:Int)] w (Gave A w (σ.give link)):=by
 have hi:=slotOf_lt hv;have hlv:=live_any hR link hv hp.tag
 cases hlive:σ.poolLive link with
 |false=>
  rw[give_off hlive];rw[hlive] at hlv;have HL:=zH hlv;have HR:=zH hR;clear hlv hR hv hp hi hlive;go_enter Tryz.func152,Tryz.ntmps152;go_wp2_with (go_at_call 178;refine HL.out.mono ?_;rintro e w' ⟨rfl,rfl⟩);go_ret;exact⟨⟨_,rfl⟩,A,⟨_,_,rfl⟩,HR.out,Grow.refl _ _⟩
 |true=>
  rw[hlive] at hlv;have hu:=Word.unlink_any (link:Int) (by omega) (by have:=hv.u;omega) w;rw[←slotOf_cast hv.lo] at hu;have p0:w.cell? ⟨A.bp,0,none⟩=some (.slice (some ⟨A.bs,0,none⟩) σ.slots σ.slots):=hR.pool 0 rfl;have b0:(0:Int)≤(slotOf link:Int):=by omega
  have b1:(slotOf link:Int)<(σ.slots:Int):=by omega
  have t1:=(hR.tag hi).2;have z1:=hR.tagF (2*slotOf link+1);rw[Nat.mul_comm 2] at t1 z1;obtain⟨r1,g1⟩:=hR.takenSet hi false;rw[Nat.mul_comm 2] at r1 g1;have i0:=(r1.tag (i:=slotOf link) hi).1;rw[Nat.mul_comm 2] at i0;have hsl:=hR.sl;have etag:((σ.tags.set (slotOf link) ((σ.tags.getD (slotOf link) (0,false)).1,false)).getD (slotOf link) (0,false))=((σ.tags.getD (slotOf link) (0,false)).1,false):=by
   rw[getD_set _ _ _ _ _ (by rw[hR.nt];exact hi),if_pos rfl]
  rw[etag] at i0;have q1:=r1.pool 1 (v:=zi 65535) rfl;have q3:=r1.pool 3 (v:=zi (σ.worn:Int)) rfl;have z3:=r1.poolF 3
  by_cases htg:(σ.tags.getD (slotOf link) (0,false)).1=65535
  · rw[give_worn hlive htg]
    rw[htg] at i0;have hww:IntKind.i64.wrap ((σ.worn:Int)+1)=(σ.worn:Int)+1:=by have:=hp.worn;rw[IntKind.wrap_i64];omega
    have HU:=zH hu;have HL:=zH hlv;have HR:=zH (zA r1 g1);clear hu hlv hR hv hp hi hlive r1 g1 hsl etag htg;go_enter Tryz.func152,Tryz.ntmps152;go_wp2_with (first|(go_at_call 178;refine HL.out.mono ?_;rintro e w' ⟨rfl,rfl⟩)|(go_at_call 117;refine HU.out.mono ?_;rintro e w' ⟨rfl,rfl⟩));generalize hw1:w.setCell ⟨A.bs,slotOf link*2+1,none⟩ (.bool false)=w1 at*
    go_quiet (fail)
    generalize hw2:w1.drewN _=w2;obtain⟨r1,g1⟩:=HR.out;have r2:Rep A {σ with tags:=σ.tags.set (slotOf link) ((σ.tags.getD (slotOf link) (0,false)).1,false)} w2:=by rw[←hw2];exact r1.drewN _
    have g2:Grow A.L w A.L w2:=by rw[←hw2];exact g1.trans (Grow.drewN _ _ _)
    have q3:=r2.pool 3 (v:=zi (σ.worn:Int)) rfl;have z3:=r2.poolF 3;obtain⟨r3,g3⟩:=r2.wornSet (σ.worn+1);rw[show ((σ.worn+1:Nat):Int)=(σ.worn:Int)+1 from rfl] at r3 g3;have HQ:=zH (zA r3 (g2.trans g3));clear r1 g1 r2 g2 r3 g3 hw2;go_wp2_with fail;go_ret;exact⟨⟨_,rfl⟩,A,⟨_,_,rfl⟩,HQ.out.1,HQ.out.2⟩
  · rw[give_on hlive htg]
    have htl:=hp.tag _ hi;have hfl:=hp.n;have el:(σ.tags.set (slotOf link) ((σ.tags.getD (slotOf link) (0,false)).1,false)).set (slotOf link) ((σ.tags.getD (slotOf link) (0,false)).1+1,((σ.tags.set (slotOf link) ((σ.tags.getD (slotOf link) (0,false)).1,false)).getD (slotOf link) (0,false)).2)=σ.tags.set (slotOf link) ((σ.tags.getD (slotOf link) (0,false)).1+1,false):=by rw[etag,List.set_set]
    have NEXT : Hid (∀ w2, Rep A { σ with tags := σ.tags.set (slotOf link) ((σ.tags.getD (slotOf link) (0, false)).1, false) } w2 → w2.cell? ⟨A.bs, slotOf link * 2, none⟩ = some (zi ((σ.tags.getD (slotOf link) (0, false)).1 : Int)) ∧ w2.frozen? ⟨A.bs, slotOf link * 2, none⟩ = false ∧
        Rep A {σ with tags:=σ.tags.set (slotOf link) ((σ.tags.getD (slotOf link) (0,false)).1+1,false)} (w2.setCell ⟨A.bs,slotOf link*2,none⟩ (zi (((σ.tags.getD (slotOf link) (0,false)).1:Int)+1)))∧Grow A.L w2 A.L (w2.setCell ⟨A.bs,slotOf link*2,none⟩ (zi (((σ.tags.getD (slotOf link) (0,false)).1:Int)+1)))):=by
     rw[Nat.mul_comm (slotOf link) 2];intro w2 r2;have a1:=(r2.tag (i:=slotOf link) hi).1;rw[show (({σ with tags:=σ.tags.set (slotOf link) ((σ.tags.getD (slotOf link) (0,false)).1,false)}:St).tags.getD (slotOf link) (0,false))=_ from etag] at a1;obtain⟨r3,g3⟩:=r2.tagSet hi ((σ.tags.getD (slotOf link) (0,false)).1+1);refine⟨a1,r2.tagF _,?_,g3⟩;have r3':=r3;rw[show ({({σ with tags:=σ.tags.set (slotOf link) ((σ.tags.getD (slotOf link) (0,false)).1,false)}:St) with tags:=({σ with tags:=σ.tags.set (slotOf link) ((σ.tags.getD (slotOf link) (0,false)).1,false)}:St).tags.set (slotOf link) ((σ.tags.getD (slotOf link) (0,false)).1+1,(({σ with tags:=σ.tags.set (slotOf link) ((σ.tags.getD (slotOf link) (0,false)).1,false)}:St).tags.getD (slotOf link) (0,false)).2)}:St)={σ with tags:=σ.tags.set (slotOf link) ((σ.tags.getD (slotOf link) (0,false)).1+1,false)} by simp only[el]] at r3';exact r3'
    clear el etag;generalize (σ.tags.getD (slotOf link) (0,false)).1=tg at*;have d1:((tg:Int)==65535)=false:=by simp;omega
    have d2:((tg:Int)=65535)=False:=by simp;omega
    have d3:IntKind.i64.wrap ((tg:Int)+1)=(tg:Int)+1:=by rw[IntKind.wrap_i64];omega
    have HU:=zH hu;have HL:=zH hlv;have HR:=zH (zA r1 g1);have HN:=zH hfl;clear hu hlv hR hv hp hi hlive r1 g1 hsl htg htl hfl;go_enter Tryz.func152,Tryz.ntmps152;go_wp2_with (first|(go_at_call 178;refine HL.out.mono ?_;rintro e w' ⟨rfl,rfl⟩)|(go_at_call 117;refine HU.out.mono ?_;rintro e w' ⟨rfl,rfl⟩));generalize hw1:w.setCell ⟨A.bs,slotOf link*2+1,none⟩ (.bool false)=w1 at*
    go_quiet (fail)
    generalize hw2:w1.drewN _=w2;obtain⟨r1,g1⟩:=HR.out;have r2:Rep A {σ with tags:=σ.tags.set (slotOf link) (tg,false)} w2:=by rw[←hw2];exact r1.drewN _
    have g2:Grow A.L w A.L w2:=by rw[←hw2];exact g1.trans (Grow.drewN _ _ _)
    obtain⟨a1,a2,r3,g3⟩:=NEXT.out w2 r2;have g4:=g2.trans g3;obtain⟨av,capv,hv,hstep⟩:=free_step r3 (slotOf link);obtain⟨r5,g5,_⟩:=allocs1 r3 #[zi (slotOf link:Int)] 3;have p2:=r3.pool 2 (v:=A.vfree) rfl;have hown:=free_row r5;rw[hv] at p2 hown;have HS:=zH hstep;have HV:=zH hv;have HO:=zH hown;have HQ:=zH g4;clear r1 g1 r2 g2 r3 g3 g4 hw2 hv hown hstep r5 g5;obtain⟨ii,hii,hz0,hz1,hz2⟩:=info_parts infoI;have hsz:∀ a u,(w2.setCell a u).heap.size=w2.heap.size:=fun a u=>by simp[World.setCell]
    have HZ:=zH hsz;clear hsz;go_wp2_with (refine Ow.wpList_append_to _ rfl (.tmp 55) (.tmp 57) 57 rfl 0 _ ii _ 1 8 Tryz.underlying57 hii hz0 hz1 hz2 rfl (by decide) (.slice av σ.free.length capv) σ.free.length (σ.free.map i64) rfl HO.out ⟨w2.heap.size,0,none⟩ 1 1 (by omega) [zi (slotOf link:Int)] rfl rfl (by intro j' u hu;rw[←HZ.out ⟨A.bs,slotOf link*2,none⟩ (zi ((tg:Int)+1))];exact Ow.new_row _ [zi (slotOf link:Int)] _ _ rfl j' u hu) (by intro u hu;obtain rfl:=List.mem_singleton.1 hu;rfl) (by have:=HN.out;unfold maxLen;omega) (by have:=HN.out;omega) (Nat.zero_le _) ?_;intro v' w4 q1 q2 q3;obtain⟨k1,k2,k3,_⟩:=HS.out v' w4 q1 (by rw[HV.out];exact q2) (by rw[HV.out];exact q3);obtain⟨a4,cap4,rfl,_⟩:=Ow.own_form q1;have K1:=zH k1;clear k1 q1 q2 q3);go_ret;obtain⟨A2,h1,h2,h3⟩:=K1.out;exact⟨⟨_,rfl⟩,A2,h1,h2,HQ.out.trans h3⟩
theorem lost_any {A:Book} {σ:St} {w:World} (hR:Rep A σ w) (s:Nat) (link:Nat) (hv0:link=0∨VL σ link) (hp:PoolOk σ):
 Calls Tryz.prog 285 #[.pointer (some ⟨A.be,0,none⟩),.pointer (some ⟨A.bt s,0,none⟩),.pointer (some ⟨A.bc s,0,none⟩),zu (link:Int)] w (Tells A w s (σ.lost link)):=by
 by_cases h0:link=0
 · have e:σ.lost link=(σ,.abort 14 2):=by unfold St.lost;rw[if_neg (by simpa using h0)]
   rw[e];have d1:((link:Int) !=0)=false:=by simpa using h0
   have d2:((link:Int)=0)=True:=by simpa using h0
   have d3:((link:Int)==0)=true:=by simpa using h0
   have HA:=zH (abort_any hR s 14 2);clear hR hv0 hp h0 e;go_enter Tryz.func285,Tryz.ntmps285;go_wp2_with (go_at_call 170;refine HA.out.mono ?_;rintro e w2 ⟨A2,v,rfl,p1,p2,p3,p4⟩);go_ret;exact⟨A2,v,rfl,p1,p2,p3,p4⟩
 · have hv:=hv0.resolve_left h0
   have e:σ.lost link=(σ.give link,.abort 14 2):=by unfold St.lost;rw[if_pos (by simpa using h0)]
   rw[e];have d1:((link:Int) !=0)=true:=by simpa using h0
   have d2:((link:Int)=0)=False:=by simpa using h0
   have d3:((link:Int)==0)=false:=by simpa using h0
   have e3:=hR.eng 3 (v:=.pointer (some ⟨A.bp,0,none⟩)) rfl;have HG:=zH (give_any hR link hv hp);clear hR hv0 hv hp h0 e;generalize σ.give link=σ1 at*;go_enter Tryz.func285,Tryz.ntmps285;go_wp2_with (first|(go_at_call 152;refine HG.out.mono ?_;rintro e w1 ⟨⟨z,rfl⟩,A1,⟨L1,v1,rfl⟩,q1,q2⟩;have HA:=zH (abort_any q1 s 14 2);have HQ:=zH q2;clear q1 q2)|(go_at_call 170;refine HA.out.mono ?_;rintro e w2 ⟨A2,v,rfl,p1,p2,p3,p4⟩));go_ret;have hst:Stay A {A with L:=L1,vfree:=v1} s:=⟨rfl,rfl,rfl,rfl,rfl,rfl,rfl,rfl,rfl,rfl,rfl,fun _ _=>rfl,fun _ _=>rfl⟩
   exact⟨A2,v,rfl,p1,HQ.out.trans p2,hst.trans p3,p4⟩
variable {A:Book} {σ:St} {w:World}
theorem place_still (h:Rep A σ w) (id:Nat) (hid:id≤65535):
 Calls Tryz.prog 72 #[.pointer (some ⟨A.be,0,none⟩),zi (id:Int)] w fun e w'=>e=.returned (zi ((σ.place id:Nat):Int))∧w'=w:=flip (place_any h id hid)
theorem k_freeTxn (hR:Rep A σ w) (s:Nat) (t:Txn) (ht:σ.txns.getD s none=some t) (link head at_ id:Nat) (hv0:link=0∨VL σ link) (hid:id≤65535) (hpl:σ.place id<σ.words.length) (hw:σ.word (σ.place id)<18446744073709551616) (hp:PoolOk σ) (hcnt:σ.count<4000000000000000000)
 (b0 b1 b2 b3 b4 b5:Nat) (B0:Box A.L w b0 (.pointer (some ⟨A.be,0,none⟩))) (B1:StampBox A.L w b1 id) (B2:Box A.L w b2 (.pointer (some ⟨A.bt s,0,none⟩))) (B3:NextBox (kp A σ s) A.L w b3 link head at_) (B4:Box A.L w b4 (.pointer (some ⟨A.bc s,0,none⟩))) (B5:Box A.L w b5 (zu (link:Int))):
 Calls Tryz.prog 286 #[.pointer (some ⟨b0,0,none⟩),.pointer (some ⟨b1,0,none⟩),.pointer (some ⟨b2,0,none⟩),.pointer (some ⟨b3,0,none⟩),.pointer (some ⟨b4,0,none⟩),.pointer (some ⟨b5,0,none⟩)] w (Ran A w s (σ.run s (.freeTxn link head at_ id))):=by
 obtain⟨_,S1⟩:=B1;obtain⟨nv,X3,m0,m1,m2,m3,m4,m5,hnv,N0,N1,N2,N3,N4,N5⟩:=B3;have c0:=B0.cell;have c1:=S1.cell 1 (v:=zu (id:Int)) rfl;have e2:=hR.z2;have HP:=zH (place_still hR.drew id hid);have HL:=zH (load_any hR.drew (σ.place id) hpl hcnt);have HU:=zH (fun w'=>unpack_any (σ.word (σ.place id)) hw w');have n1:IntKind.i64.wrap (id:Int)=(id:Int):=by rw[IntKind.wrap_i64];omega
 have HG:=zG A.L w;have HK:Hid (∀ w',Kp A w w'→w'.cell? ⟨b0,0,none⟩=some (.pointer (some ⟨A.be,0,none⟩))∧w'.cell? ⟨b1,1,none⟩=some (zu (id:Int))∧w'.cell? ⟨A.be,2,none⟩=some (.pointer (some ⟨A.ba,0,none⟩))):=by
  obtain⟨_,x0⟩:=B0;exact fun w' k=>⟨k.fix _ _ _ x0.1 c0,k.fix _ _ _ S1.1 c1,k.ea⟩
 have HB : Hid (∀ w1, Rep A σ.tick w1 → Grow A.L w A.L w1 → w1.cell? ⟨b0, 0, none⟩ = some (.pointer (some ⟨A.be, 0, none⟩)) ∧ w1.cell? ⟨b2, 0, none⟩ = some (.pointer (some ⟨A.bt s, 0, none⟩)) ∧ w1.cell? ⟨b3, 0, none⟩ = some nv ∧ w1.cell? ⟨b4, 0, none⟩ = some (.pointer (some ⟨A.bc s, 0, none⟩)) ∧ w1.cell? ⟨b5, 0, none⟩ = some (zu (link : Int)) ∧ w1.cell? ⟨A.bt s, 3, none⟩ = some (zu (t.begin_ : Int)) ∧
     (∀ w1,Rep A σ.tick w1→Calls Tryz.prog 285 #[.pointer (some ⟨A.be,0,none⟩),.pointer (some ⟨A.bt s,0,none⟩),.pointer (some ⟨A.bc s,0,none⟩),zu (link:Int)] w1 (Tells A w1 s (σ.tick.lost link)))):=by
  intro w1 q1 q2;have g:=q2;exact⟨(B0.grow g).cell,(B2.grow g).cell,(X3.grow g).cell,(B4.grow g).cell,(B5.grow g).cell,q1.txn ht 3 rfl,fun w3 q3=>lost_any q3 s link (hv0.imp (fun h=>h) fun h=>⟨h.lo,h.hi,h.u⟩) ⟨hp.n,hp.free,hp.tag,hp.worn⟩⟩
 have HN:=zH (zA N0 (zA N1 (zA N2 (zA N3 (zA N4 N5)))));have hrun:σ.run s (.freeTxn link head at_ id)=if stateOf (σ.word (σ.place id))=4∨(0<endOf (σ.word (σ.place id))∧endOf (σ.word (σ.place id))≤t.begin_) then (σ.tick,some (.next link head at_)) else ((σ.tick.lost link).1,some (σ.tick.lost link).2):=by
  have e:(σ.tick.t s)=t:=txn_get ht;simp only[St.run,e]
 rw[hrun];clear hR ht hv0 hid hpl hw hp hcnt B0 S1 B2 X3 B4 B5 N0 N1 N2 N3 N4 N5 hrun;subst hnv;generalize σ.word (σ.place id)=x at*;generalize hst:stateOf x=st at*;generalize hen:endOf x=en at*;generalize t.begin_=bg at*;clear hst hen
 by_cases h4:st=4
 · rw[if_pos (Or.inl h4)]
   subst h4;go_enter Tryz.func286,Tryz.ntmps286;go_wp2_with fail
   go_region_held3 (fun w'=>w'.cell? ⟨b0,0,none⟩=some (.pointer (some ⟨A.be,0,none⟩))∧w'.cell? ⟨b1,1,none⟩=some (zu (id:Int))∧w'.cell? ⟨A.be,2,none⟩=some (.pointer (some ⟨A.ba,0,none⟩)))
    (first|exact⟨c0,c1,e2⟩|assumption|exact HK.out _ (Kp.of (by assumption) (by assumption) (by assumption)))
    (first|(go_at_call 72;refine HP.out.mono ?_;rintro e w' ⟨rfl,rfl⟩)|(go_at_call 66;refine HL.out.mono ?_;rintro e w1 ⟨rfl,q1,q2⟩;have q4:=HG.out.trans q2;have q3:=Stay.refl A s;clear q2)|(go_at_call 119;refine (HU.out _).mono ?_;rintro e w' ⟨rfl,rfl⟩))
   obtain⟨d0,d2,d3,d4,d5,d6,hk⟩:=HB.out _ (by assumption) (by assumption);have HQ:=zH (zA (‹Rep A σ.tick _›) (zA (‹Grow A.L w A.L _›) hk));clear hk;go_wp2_with fail;go_ret;obtain⟨q1,g1,_⟩:=HQ.out;exact⟨A,_,rfl,q1,g1,Stay.refl _ _,_,_,_,_,_,_,rfl,(HN.out.1).grow g1,(HN.out.2.1).grow g1,(HN.out.2.2.1).grow g1,(HN.out.2.2.2.1).grow g1,(HN.out.2.2.2.2.1).grow g1,(HN.out.2.2.2.2.2).grow g1⟩
 · have a1:((st:Int)==4)=false:=by simp;omega
   have a2:((st:Int)=4)=False:=by simp;omega
   by_cases h0:en=0
   · rw[if_neg (by omega)]
     have a3:decide ((0:Int)<(en:Int))=false:=by simp;omega
     have a4:((0:Int)<(en:Int))=False:=by simp;omega
     have a4n:(0<en)=False:=by simp;omega
     clear h4 h0;go_enter Tryz.func286,Tryz.ntmps286;go_wp2_with fail
     go_region_held3 (fun w'=>w'.cell? ⟨b0,0,none⟩=some (.pointer (some ⟨A.be,0,none⟩))∧w'.cell? ⟨b1,1,none⟩=some (zu (id:Int))∧w'.cell? ⟨A.be,2,none⟩=some (.pointer (some ⟨A.ba,0,none⟩)))
      (first|exact⟨c0,c1,e2⟩|assumption|exact HK.out _ (Kp.of (by assumption) (by assumption) (by assumption)))
      (first|(go_at_call 72;refine HP.out.mono ?_;rintro e w' ⟨rfl,rfl⟩)|(go_at_call 66;refine HL.out.mono ?_;rintro e w1 ⟨rfl,q1,q2⟩;have q4:=HG.out.trans q2;have q3:=Stay.refl A s;clear q2)|(go_at_call 119;refine (HU.out _).mono ?_;rintro e w' ⟨rfl,rfl⟩))
     obtain⟨d0,d2,d3,d4,d5,d6,hk⟩:=HB.out _ (by assumption) (by assumption);have HQ:=zH (zA (‹Rep A σ.tick _›) (zA (‹Grow A.L w A.L _›) hk));clear hk;go_wp2_with (go_at_call 285;refine (HQ.out.2.2 _ HQ.out.1).mono ?_;rintro e w2 ⟨A2,v,rfl,p1,p2,p3,p4⟩);go_ret;exact⟨A2,v,rfl,p1,HQ.out.2.1.trans p2,p3,p4⟩
   · have a3:decide ((0:Int)<(en:Int))=true:=by simp;omega
     have a4:((0:Int)<(en:Int))=True:=by simp;omega
     have a4n:(0<en)=True:=by simp;omega
     by_cases hb:en≤bg
     · rw[if_pos (by omega)]
       have a5:decide ((en:Int)≤(bg:Int))=true:=by simp;omega
       have a6:((en:Int)≤(bg:Int))=True:=by simp;omega
       have a6n:(en≤bg)=True:=by simp;omega
       clear h4 h0 hb;go_enter Tryz.func286,Tryz.ntmps286;go_wp2_with fail
       go_region_held3 (fun w'=>w'.cell? ⟨b0,0,none⟩=some (.pointer (some ⟨A.be,0,none⟩))∧w'.cell? ⟨b1,1,none⟩=some (zu (id:Int))∧w'.cell? ⟨A.be,2,none⟩=some (.pointer (some ⟨A.ba,0,none⟩)))
        (first|exact⟨c0,c1,e2⟩|assumption|exact HK.out _ (Kp.of (by assumption) (by assumption) (by assumption)))
        (first|(go_at_call 72;refine HP.out.mono ?_;rintro e w' ⟨rfl,rfl⟩)|(go_at_call 66;refine HL.out.mono ?_;rintro e w1 ⟨rfl,q1,q2⟩;have q4:=HG.out.trans q2;have q3:=Stay.refl A s;clear q2)|(go_at_call 119;refine (HU.out _).mono ?_;rintro e w' ⟨rfl,rfl⟩))
       obtain⟨d0,d2,d3,d4,d5,d6,hk⟩:=HB.out _ (by assumption) (by assumption);have HQ:=zH (zA (‹Rep A σ.tick _›) (zA (‹Grow A.L w A.L _›) hk));clear hk;go_wp2_with fail;go_ret;obtain⟨q1,g1,_⟩:=HQ.out;exact⟨A,_,rfl,q1,g1,Stay.refl _ _,_,_,_,_,_,_,rfl,(HN.out.1).grow g1,(HN.out.2.1).grow g1,(HN.out.2.2.1).grow g1,(HN.out.2.2.2.1).grow g1,(HN.out.2.2.2.2.1).grow g1,(HN.out.2.2.2.2.2).grow g1⟩
     · rw[if_neg (by omega)]
       have a5:decide ((en:Int)≤(bg:Int))=false:=by simp;omega
       have a6:((en:Int)≤(bg:Int))=False:=by simp;omega
       have a6n:(en≤bg)=False:=by simp;omega
       clear h4 h0 hb;go_enter Tryz.func286,Tryz.ntmps286;go_wp2_with fail
       go_region_held3 (fun w'=>w'.cell? ⟨b0,0,none⟩=some (.pointer (some ⟨A.be,0,none⟩))∧w'.cell? ⟨b1,1,none⟩=some (zu (id:Int))∧w'.cell? ⟨A.be,2,none⟩=some (.pointer (some ⟨A.ba,0,none⟩)))
        (first|exact⟨c0,c1,e2⟩|assumption|exact HK.out _ (Kp.of (by assumption) (by assumption) (by assumption)))
        (first|(go_at_call 72;refine HP.out.mono ?_;rintro e w' ⟨rfl,rfl⟩)|(go_at_call 66;refine HL.out.mono ?_;rintro e w1 ⟨rfl,q1,q2⟩;have q4:=HG.out.trans q2;have q3:=Stay.refl A s;clear q2)|(go_at_call 119;refine (HU.out _).mono ?_;rintro e w' ⟨rfl,rfl⟩))
       obtain⟨d0,d2,d3,d4,d5,d6,hk⟩:=HB.out _ (by assumption) (by assumption);have HQ:=zH (zA (‹Rep A σ.tick _›) (zA (‹Grow A.L w A.L _›) hk));clear hk;go_wp2_with (go_at_call 285;refine (HQ.out.2.2 _ HQ.out.1).mono ?_;rintro e w2 ⟨A2,v,rfl,p1,p2,p3,p4⟩);go_ret;exact⟨A2,v,rfl,p1,HQ.out.2.1.trans p2,p3,p4⟩
end Go.Proofs.YtiimlopcifljeaaGreatDoor.Em
