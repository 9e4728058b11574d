import Derived.Test.YtiimlopcifljeaaGreatDoorQk17
import Derived.Test.YtiimlopcifljeaaGreatDoorQk16
namespace Go.Proofs.YtiimlopcifljeaaGreatDoor.Em
open Go.ChangeShapes Go.WideShapes Go.ChangeAt Go.RowKit En
set_option linter.unusedVariables false
set_option linter.unusedSimpArgs false
set_option maxRecDepth 100000
set_option maxHeartbeats 1600000
theorem Fix.set2 {L:Lab} {w:World} {b:Nat} {x y:Value} {T:TypeId} (h:Fix L w b (.cells #[x,y] T)) (u v:Value):Fix L ((w.setCell ⟨b,0,none⟩ u).setCell ⟨b,1,none⟩ v) b (.cells #[u,v] T):=by
 refine⟨h.1,?_⟩;have h2:=h.2;simp[World.setCell,Array.getElem?_modify,h2]
theorem Rep.stamp {A:Book} {σ σ1:St} {w w2:World} (hR:Rep A σ w) (r2:Rep A σ1 w2) (g:Grow A.L w A.L w2) (ht:σ1.tale=σ.tale) {b:Nat} {x y:Value} {T:TypeId} (hb:w.heap.size≤b) (fx:Fix A.L w2 b (.cells #[x,y] T)) (u v:Value):
 Rep A σ1 ((w2.setCell ⟨b,0,none⟩ u).setCell ⟨b,1,none⟩ v)∧Grow A.L w A.L ((w2.setCell ⟨b,0,none⟩ u).setCell ⟨b,1,none⟩ v)∧Fix A.L ((w2.setCell ⟨b,0,none⟩ u).setCell ⟨b,1,none⟩ v) b (.cells #[u,v] T):=by
 obtain⟨r3,g3⟩:=hR.setNew r2 g ht rfl (a:=⟨b,0,none⟩) hb fx.1 u;obtain⟨r4,g4⟩:=hR.setNew r3 g3 ht rfl (a:=⟨b,1,none⟩) hb fx.1 v;exact⟨r4,g4,fx.set2 u v⟩
theorem k_ended {A:Book} {σ:St} {w:World} (hR:Rep A σ w) (s:Nat) (hmp:A.mp=0) (t:Txn) (ht:σ.txns.getD s none=some t) (hu:Hunt) (link mb b0 b1 b2:Nat) (B0:HuntBox (kp A σ s) A.L w b0 hu) (B1:Box A.L w b1 (zu (link:Int))) (B2:Box A.L w b2 (zi (mb:Int))) (hv:VL σ link) (hx:σ.word (wslot link 1)<18446744073709551616) (hcnt:σ.count<4000000000000000000) (HT:mb=0→ThnTo σ.tick s hu link):
 Calls Tryz.prog 331 #[.pointer (some ⟨b0,0,none⟩),.pointer (some ⟨b1,0,none⟩),.pointer (some ⟨b2,0,none⟩)] w (Ran A w s (σ.run s (.ended hu link mb))):=by
 have hsl:=hR.sl;obtain⟨bh,X0,hh0⟩:=B0;obtain⟨vt,TT,fh,hth⟩:=id hh0;have c0:=X0.cell;have c1:=B1.cell;have h0:w.cell? ⟨bh,0,none⟩=some (.pointer (some ⟨A.be,0,none⟩)):=fh.cell 0 rfl;have e2:=hR.z2;have HSl:=zH (slot_at link 1 1 rfl hv.lo (by have:=hv.hi;omega) hv.u (by omega));have HL:Hid (∀ w',Rep A σ w'→Calls Tryz.prog 66 #[.pointer (some ⟨A.ba,0,none⟩),zi ((wslot link 1:Nat):Int)] w' (Did A w' σ.tick (zu (σ.word (wslot link 1):Int)))):=fun w' r=>load_any r (wslot link 1) (wslot_lt hR hv.lo hv.hi (by omega)) hcnt
 have HKK:Hid (∀ w',Rep A σ.tick w'→Grow A.L w A.L w'→w'.cell? ⟨b0,0,none⟩=some (.pointer (some ⟨bh,0,none⟩))∧w'.cell? ⟨b1,0,none⟩=some (zu (link:Int))∧w'.cell? ⟨bh,0,none⟩=some (.pointer (some ⟨A.be,0,none⟩))∧w'.cell? ⟨A.be,2,none⟩=some (.pointer (some ⟨A.ba,0,none⟩))):=fun w' r g=>⟨(X0.grow g).cell,(B1.grow g).cell,(fh.grow g).cell 0 rfl,r.eng 2 rfl⟩
 have hrd:=rd_any (σ.word (wslot link 1)) hx;have HRD:=zH hrd;have HRd:Hid (Rep A σ w.drew):=hR.drew;have HG:=zG A.L w;have HFX:Hid (Fix A.L (w.drew.alloc (.cells #[zi 0,zu 0] 230)) w.heap.size (.cells #[zi 0,zu 0] 230)):=fix_next hR.drew.mem.fresh _ rfl;have x0:=World.new_ne w _ c0;have x1:=World.new_ne w _ c1;have x2:=World.new_ne w _ h0;have x3:=World.new_ne w _ e2;generalize hkd:(rd (σ.word (wslot link 1))).1=kd at*;generalize hn:(rd (σ.word (wslot link 1))).2=n at*;have HST:Hid (∀ w2 b,Rep A σ.tick w2→Grow A.L w A.L w2→w.heap.size≤b→Fix A.L w2 b (.cells #[zi 0,zu 0] 230)→Rep A σ.tick ((w2.setCell ⟨b,0,none⟩ (zi (kd:Int))).setCell ⟨b,1,none⟩ (zu (n:Int)))∧Grow A.L w A.L ((w2.setCell ⟨b,0,none⟩ (zi (kd:Int))).setCell ⟨b,1,none⟩ (zu (n:Int)))∧Fix A.L ((w2.setCell ⟨b,0,none⟩ (zi (kd:Int))).setCell ⟨b,1,none⟩ (zu (n:Int))) b (.cells #[zi (kd:Int),zu (n:Int)] 230)):=fun w2 b r g hb fx=>hR.stamp r g rfl hb fx _ _
 have HSZ:Hid (∀ w1,Grow A.L w A.L w1→w.heap.size≤w1.heap.size):=fun w1 g=>g.size
 have HB:Hid (∀ w1,Rep A σ.tick w1→Grow A.L w A.L w1→w1.cell? ⟨b0,0,none⟩=some (.pointer (some ⟨bh,0,none⟩))∧w1.cell? ⟨b1,0,none⟩=some (zu (link:Int))∧w1.cell? ⟨b2,0,none⟩=some (zi (mb:Int))∧w1.cell? ⟨bh,0,none⟩=some (.pointer (some ⟨A.be,0,none⟩))∧w1.cell? ⟨bh,1,none⟩=some (.pointer (some ⟨A.bt s,0,none⟩))∧w1.cell? ⟨bh,3,none⟩=some (zu (hu.at_:Int))∧w1.cell? ⟨A.bt s,0,none⟩=some (zi (t.id:Int))):=
  fun w1 q g=>⟨(X0.grow g).cell,(B1.grow g).cell,(B2.grow g).cell,(fh.grow g).cell 0 rfl,(fh.grow g).cell 1 rfl,(fh.grow g).cell 3 rfl,q.txn (s:=s) (t:=t) ht 0 rfl⟩
 have HSeen:Hid (∀ w1,Rep A σ.tick w1→Grow A.L w A.L w1→Calls Tryz.prog 332 #[.pointer (some ⟨bh,0,none⟩),zu (link:Int),zi (mb:Int)] w1 (Tells A w1 s (σ.tick.seen s hu link mb))):=fun w1 q g=>seen_any q s hmp bh hu (show HuntAt (kp A σ.tick s) A.L w1 bh hu from hh0.grow g) link mb HT
 have HOld:Hid (∀ w1,Rep A σ.tick w1→Grow A.L w A.L w1→Calls Tryz.prog 321 #[.pointer (some ⟨bh,0,none⟩),zu (link:Int)] w1 (Tells A w1 s (σ.tick,.older hu link))):=fun w1 q g=>older_any q s bh hu (show HuntAt (kp A σ.tick s) A.L w1 bh hu from hh0.grow g) link
 have HEnder:Hid (∀ w1,Rep A σ.tick w1→Grow A.L w A.L w1→Calls Tryz.prog 333 #[.pointer (some ⟨bh,0,none⟩),zu (link:Int),zi (mb:Int),zi (n:Int)] w1 (Tells A w1 s (σ.tick,.ender hu link mb n))):=fun w1 q g=>ender_any q s bh hu (show HuntAt (kp A σ.tick s) A.L w1 bh hu from hh0.grow g) link mb n
 have hn2:kd=2→n≤65535:=by
  intro h;have:=(rd_small (σ.word (wslot link 1)) hx).2.1;rw[hkd,hn] at this;have:=this h;omega
 have hrun:σ.run s (.ended hu link mb)=if kd=1∧n≤hu.at_ then (σ.tick,some (.older hu link)) else if kd≠2∨n=t.id then ((σ.tick.seen s hu link mb).1,some (σ.tick.seen s hu link mb).2) else (σ.tick,some (.ender hu link mb n)):=by
  have e:σ.tick.t s=t:=txn_get ht;simp only[St.run,hkd,hn,e]
 have HRUN:=zH hrun;have HN2:=zH hn2;generalize σ.run s (.ended hu link mb)=rr at*;clear hn2 hR hcnt hv X0 B1 B2 fh hth hh0 HT hx hrd hkd hn hrun ht hmp hsl;generalize hu.at_=ha at*;generalize t.id=tid at*;generalize σ.word (wslot link 1)=x at*;go_enter Tryz.func331,Tryz.ntmps331;go_wp2_with fail
 go_region_held3 (fun w'=>w'.cell? ⟨b0,0,none⟩=some (.pointer (some ⟨bh,0,none⟩))∧w'.cell? ⟨b1,0,none⟩=some (zu (link:Int))∧w'.cell? ⟨bh,0,none⟩=some (.pointer (some ⟨A.be,0,none⟩))∧w'.cell? ⟨A.be,2,none⟩=some (.pointer (some ⟨A.ba,0,none⟩)))
  (first|exact⟨c0,c1,h0,e2⟩|assumption|exact HKK.out _ q1 q4|exact HKK.out _ (q1.alloc _) (q4.trans (Grow.alloc _ _ _))|exact HKK.out _ r2 g2|exact HKK.out _ (r2.alloc _) (g2.trans (Grow.alloc _ _ _))|exact HKK.out _ (HST.out _ _ r2 g2 hb FX.out).1 (HST.out _ _ r2 g2 hb FX.out).2.1|go_keep)
  (first|(go_at_call 79;refine (HSl.out _).mono ?_;rintro e w' ⟨rfl,rfl⟩)|(go_at_call 66;refine (HL.out _ HRd.out).mono ?_;rintro e w1 ⟨rfl,q1,q2⟩;have q4:=HG.out.trans q2)|(go_at_call 66;refine (HL.out _ (HRd.out.alloc _)).mono ?_;rintro e w1 ⟨rfl,q1,q2⟩;have q4:=(HG.out.trans (Grow.alloc _ _ _)).trans q2;have FX1:=zH (HFX.out.grow q2))|(go_at_call 118;refine (HRD.out _).mono ?_;rintro e w2 ⟨rfl,hq⟩;have r2:=q1.below hq;have g2:=q4.trans (Grow.below hq);have FX:=zH (FX1.out.grow (Grow.below hq));have hb:=Nat.le_refl w.heap.size;have nb0:=FX.out.cell 0 (v:=zi 0) rfl;have nb1:=FX.out.cell 1 (v:=zu 0) rfl;have nz0:=FX.out.frozen 0;have nz1:=FX.out.frozen 1)|(go_at_call 118;refine (HRD.out _).mono ?_;rintro e w2 ⟨rfl,hq⟩;have r2:=(q1.alloc _).below hq;have g2:=(q4.trans (Grow.alloc A.L _ _)).trans (Grow.below hq);have FX:=zH ((fix_next q1.mem.fresh (.cells #[zi 0,zu 0] 230) rfl).grow (Grow.below (L:=A.L) hq));have hb:=HSZ.out _ q4;have nb0:=FX.out.cell 0 (v:=zi 0) rfl;have nb1:=FX.out.cell 1 (v:=zu 0) rfl;have nz0:=FX.out.frozen 0;have nz1:=FX.out.frozen 1)|(go_at_call 118;refine (HRD.out _).mono ?_;rintro e w2 ⟨rfl,hq⟩;have r2:=q1.below hq;have g2:=q4.trans (Grow.below hq)))
 all_goals
  rename_i hHeld;clear hHeld x0 x1 x2 x3 c0 c1 h0 e2
  first
  | (have HZ := zH (HST.out _ _ r2 g2 hb FX.out)
     clear FX hb nb0 nb1 nz0 nz1 r2 g2 q1 q4
     generalize hW:(World.setCell _ _ _).setCell _ _=W at *)
  | (have HZ := zH (zA (r2.alloc (.cells #[zi (kd : Int), zu (n : Int)] 230)) (zA (g2.trans (Grow.alloc _ _ (.cells #[zi (kd : Int), zu (n : Int)] 230))) (fix_next r2.mem.fresh (.cells #[zi (kd : Int), zu (n : Int)] 230) rfl)))
     clear r2 g2 q1 q4
     generalize hW:w2.alloc _=W at *)
  obtain⟨r3,g3,f3⟩:=HZ.out;have s0:=f3.cell 0 (v:=zi (kd:Int)) rfl;have s1:=f3.cell 1 (v:=zu (n:Int)) rfl;obtain⟨d0,d1,d2,h0,h1,h3,t0⟩:=HB.out W r3 g3;clear f3 r3 g3 hW hq q2;have hn2:=HN2.out;clear HN2
  by_cases k1:kd=1
  · have fa1:((kd:Int)==1)=true:=by simp<;>omega
    have fa2:((kd:Int)=1)=True:=by simp<;>omega
    have fa3:(kd=1)=True:=by simp<;>omega
    have fa4:(kd==1)=true:=by simp<;>omega
    have fa5:((kd:Int) !=1)=false:=by simp<;>omega
    obtain⟨fe1,fe2,fe3,fe4,fe5⟩:=zeF (x:=kd) (c:=2) (ci:=2) (by omega)
    by_cases hna:n≤ha
    · have HE:=zH (HRUN.out.trans (if_pos ⟨k1,hna⟩))
      obtain⟨fb1,fb2,fb3,fb4⟩:=zmt (x:=n) (c:=ha) (xi:=(n:Int)) (ci:=(ha:Int)) (by omega);subst k1;clear hna;go_wp2_with fail
      go_quiet (fail)
      go_wp2_with (go_at_call 321;refine (HOld.out _ (HZ.out.1.drewN _) (HZ.out.2.1.trans (Grow.drewN _ _ _))).mono ?_;rintro e w4 ⟨A2,v,rfl,p1,p2,p3,p4⟩);go_ret;rw[HE.out];exact⟨A2,v,rfl,p1,(HZ.out.2.1.trans (Grow.drewN _ _ _)).trans p2,p3,p4⟩
    · have HE:=zH ((HRUN.out.trans (if_neg (fun h=>hna h.2))).trans (if_pos (Or.inl (by omega))))
      obtain⟨fb1,fb2,fb3,fb4⟩:=zmf (x:=n) (c:=ha) (xi:=(n:Int)) (ci:=(ha:Int)) (by omega);subst k1;clear hna;go_wp2_with fail
      go_quiet (fail)
      go_wp2_with fail
      go_quiet (fail)
      go_wp2_with (go_at_call 332;refine (HSeen.out _ (HZ.out.1.drewN _) (HZ.out.2.1.trans (Grow.drewN _ _ _))).mono ?_;rintro e w4 ⟨A2,v,rfl,p1,p2,p3,p4⟩);go_ret;rw[HE.out];exact⟨A2,v,rfl,p1,(HZ.out.2.1.trans (Grow.drewN _ _ _)).trans p2,p3,p4⟩
  · have HE0:=zH (HRUN.out.trans (if_neg (fun h=>k1 h.1)))
    obtain⟨fa1,fa2,fa3,fa4,fa5⟩:=zeF (x:=kd) (c:=1) (ci:=1) (by omega)
    by_cases k2:kd=2
    · have fe1:((kd:Int)==2)=true:=by simp<;>omega
      have fe2:((kd:Int)=2)=True:=by simp<;>omega
      have fe3:(kd=2)=True:=by simp<;>omega
      have fe4:(kd==2)=true:=by simp<;>omega
      have fe5:((kd:Int) !=2)=false:=by simp<;>omega
      have hn5:=hn2 k2;have ew:IntKind.i64.wrap (n:Int)=(n:Int):=by rw[IntKind.wrap_i64];omega
      by_cases hni:n=tid
      · have HE:=zH (HE0.out.trans (if_pos (Or.inr hni)))
        obtain⟨fb1,fb2,fb3,fb4,fb5⟩:=zeT (x:=n) (c:=tid) (ci:=(tid:Int)) (by omega);subst k2;clear k1 hni hn5;go_wp2_with fail
        go_quiet (fail)
        go_wp2_with fail
        go_quiet (fail)
        go_wp2_with (go_at_call 332;refine (HSeen.out _ (HZ.out.1.drewN _) (HZ.out.2.1.trans (Grow.drewN _ _ _))).mono ?_;rintro e w4 ⟨A2,v,rfl,p1,p2,p3,p4⟩);go_ret;rw[HE.out];exact⟨A2,v,rfl,p1,(HZ.out.2.1.trans (Grow.drewN _ _ _)).trans p2,p3,p4⟩
      · have HE:=zH (HE0.out.trans (if_neg (by omega)))
        obtain⟨fb1,fb2,fb3,fb4,fb5⟩:=zeF (x:=n) (c:=tid) (ci:=(tid:Int)) (by omega);subst k2;clear k1 hni hn5;go_wp2_with fail
        go_quiet (fail)
        go_wp2_with fail
        go_quiet (fail)
        go_wp2_with (go_at_call 333;refine (HEnder.out _ (HZ.out.1.drewN _) (HZ.out.2.1.trans (Grow.drewN _ _ _))).mono ?_;rintro e w4 ⟨A2,v,rfl,p1,p2,p3,p4⟩);go_ret;rw[HE.out];exact⟨A2,v,rfl,p1,(HZ.out.2.1.trans (Grow.drewN _ _ _)).trans p2,p3,p4⟩
    · have HE:=zH (HE0.out.trans (if_pos (Or.inl k2)))
      obtain⟨fe1,fe2,fe3,fe4,fe5⟩:=zeF (x:=kd) (c:=2) (ci:=2) (by omega);clear k1 k2;go_wp2_with fail
      go_quiet (fail)
      go_wp2_with fail
      go_quiet (fail)
      go_wp2_with (go_at_call 332;refine (HSeen.out _ (HZ.out.1.drewN _) (HZ.out.2.1.trans (Grow.drewN _ _ _))).mono ?_;rintro e w4 ⟨A2,v,rfl,p1,p2,p3,p4⟩);go_ret;rw[HE.out];exact⟨A2,v,rfl,p1,(HZ.out.2.1.trans (Grow.drewN _ _ _)).trans p2,p3,p4⟩
theorem k_own {A:Book} {σ:St} {w:World} (hR:Rep A σ w) (s:Nat) (t:Txn) (ht:σ.txns.getD s none=some t) (link:Nat) (hv:VL σ link) (hx:σ.word (wslot link 1)<18446744073709551616) (hcnt:σ.count<4000000000000000000) (b0 b1 b2 b3:Nat)
 (B0:Box A.L w b0 (.pointer (some ⟨A.be,0,none⟩))) (B1:Box A.L w b1 (zu (link:Int))) (B2:Box A.L w b2 (.pointer (some ⟨A.bt s,0,none⟩))) (B3:Box A.L w b3 (.pointer (some ⟨A.bc s,0,none⟩))):
 Calls Tryz.prog 253 #[.pointer (some ⟨b0,0,none⟩),.pointer (some ⟨b1,0,none⟩),.pointer (some ⟨b2,0,none⟩),.pointer (some ⟨b3,0,none⟩)] w (Ran A w s (σ.run s (.own link))):=by
 have hsl:=hR.sl;have c0:=B0.cell;have c1:=B1.cell;have e2:=hR.z2;have HSl:=zH (slot_at link 1 1 rfl hv.lo (by have:=hv.hi;omega) hv.u (by omega));have HL:Hid (∀ w',Rep A σ w'→Calls Tryz.prog 66 #[.pointer (some ⟨A.ba,0,none⟩),zi ((wslot link 1:Nat):Int)] w' (Did A w' σ.tick (zu (σ.word (wslot link 1):Int)))):=fun w' r=>load_any r (wslot link 1) (wslot_lt hR hv.lo hv.hi (by omega)) hcnt
 have HKK:Hid (∀ w',Rep A σ.tick w'→Grow A.L w A.L w'→w'.cell? ⟨b0,0,none⟩=some (.pointer (some ⟨A.be,0,none⟩))∧w'.cell? ⟨b1,0,none⟩=some (zu (link:Int))∧w'.cell? ⟨A.be,2,none⟩=some (.pointer (some ⟨A.ba,0,none⟩))):=fun w' r g=>⟨(B0.grow g).cell,(B1.grow g).cell,r.eng 2 rfl⟩
 have hrd:=rd_any (σ.word (wslot link 1)) hx;have HRD:=zH hrd;have HRd:Hid (Rep A σ w.drew):=hR.drew;have HG:=zG A.L w;have HFX:Hid (Fix A.L (w.drew.alloc (.cells #[zu 0] 33)) w.heap.size (.cells #[zu 0] 33)):=fix_next hR.drew.mem.fresh _ rfl;have x0:=World.new_ne w _ c0;have x1:=World.new_ne w _ c1;have x3:=World.new_ne w _ e2;have hn2:(rd (σ.word (wslot link 1))).1=2→(rd (σ.word (wslot link 1))).2≤65535:=by
  intro h;have:=(rd_small (σ.word (wslot link 1)) hx).2.1 h;omega
 have hrun:σ.run s (.own link)=if (rd (σ.word (wslot link 1))).1=3 then (σ.tick,some (.claim link (σ.word (wslot link 1)))) else if (rd (σ.word (wslot link 1))).1=2 then (σ.tick,some (.ownTxn link (σ.word (wslot link 1)) (rd (σ.word (wslot link 1))).2)) else (σ.tick,some (.abort 14 2)):=by
  simp only[St.run]
 have HRUN:=zH hrun;have HN2:=zH hn2;generalize σ.run s (.own link)=rr at*;have hl0:A.L w.heap.size=none:=hR.mem.fresh _ (Nat.le_refl _);have HSET:Hid (∀ w',Rep A σ.tick w'→Grow A.L w A.L w'→Rep A σ.tick (w'.setCell ⟨w.heap.size,0,none⟩ (zu (σ.word (wslot link 1):Int)))∧Grow A.L w A.L (w'.setCell ⟨w.heap.size,0,none⟩ (zu (σ.word (wslot link 1):Int)))):=fun w' r g=>hR.setNew r g rfl rfl (a:=⟨w.heap.size,0,none⟩) (Nat.le_refl _) hl0 (zu (σ.word (wslot link 1):Int))
 have HB:Hid (∀ w1,Rep A σ.tick w1→Grow A.L w A.L w1→w1.cell? ⟨b0,0,none⟩=some (.pointer (some ⟨A.be,0,none⟩))∧w1.cell? ⟨b1,0,none⟩=some (zu (link:Int))∧w1.cell? ⟨b2,0,none⟩=some (.pointer (some ⟨A.bt s,0,none⟩))∧w1.cell? ⟨b3,0,none⟩=some (.pointer (some ⟨A.bc s,0,none⟩))):=fun w1 q g=>⟨(B0.grow g).cell,(B1.grow g).cell,(B2.grow g).cell,(B3.grow g).cell⟩
 have HX:=zH (zA B0 (zA B1 (zA B2 B3)));have HAb:Hid (∀ w1,Rep A σ.tick w1→Calls Tryz.prog 170 #[.pointer (some ⟨A.be,0,none⟩),.pointer (some ⟨A.bt s,0,none⟩),.pointer (some ⟨A.bc s,0,none⟩),zi 14,zi 2] w1 (Tells A w1 s (σ.tick,.abort 14 2))):=fun w1 q=>abort_any q s 14 2
 have HCl:Hid (∀ (x:Nat) w1,Rep A σ.tick w1→Calls Tryz.prog 254 #[.pointer (some ⟨A.be,0,none⟩),.pointer (some ⟨A.bt s,0,none⟩),.pointer (some ⟨A.bc s,0,none⟩),zu (link:Int),zu (x:Int)] w1 (Tells A w1 s (σ.tick,.claim link x))):=fun x w1 q=>claim_any q s link x
 clear hR hcnt hv hx hrd hrun ht hsl B0 B1 B2 B3 hl0 hn2;generalize (rd (σ.word (wslot link 1))).1=kd at*;generalize (rd (σ.word (wslot link 1))).2=n at*;generalize σ.word (wslot link 1)=x at*;go_enter Tryz.func253,Tryz.ntmps253;go_wp2_with fail
 go_region_held3 (fun w'=>w'.cell? ⟨b0,0,none⟩=some (.pointer (some ⟨A.be,0,none⟩))∧w'.cell? ⟨b1,0,none⟩=some (zu (link:Int))∧w'.cell? ⟨A.be,2,none⟩=some (.pointer (some ⟨A.ba,0,none⟩)))
  (first|exact⟨c0,c1,e2⟩|assumption|exact HKK.out _ q1 q4|exact HKK.out _ (q1.alloc _) (q4.trans (Grow.alloc _ _ _))|exact HKK.out _ (HSET.out _ q1 q4).1 (HSET.out _ q1 q4).2|go_keep)
  (first|(go_at_call 79;refine (HSl.out _).mono ?_;rintro e w' ⟨rfl,rfl⟩)|(go_at_call 66;refine (HL.out _ HRd.out).mono ?_;rintro e w1 ⟨rfl,q1,q2⟩;have q4:=HG.out.trans q2)|(go_at_call 66;refine (HL.out _ (HRd.out.alloc _)).mono ?_;rintro e w1 ⟨rfl,q1,q2⟩;have q4:=(HG.out.trans (Grow.alloc _ _ _)).trans q2;have FX:=zH (HFX.out.grow q2);have nb:=FX.out.cell 0 (v:=zu 0) rfl;have nz:=FX.out.frozen 0))
 all_goals
  rename_i hHeld;clear hHeld x0 x1 x3 c0 c1 e2
  first
  | (have HZ := zH (zA (HSET.out _ q1 q4).1 (zA (HSET.out _ q1 q4).2 (FX.out.setSame (zu (x : Int)))))
     clear FX nb nz q1 q4
     generalize hW:World.setCell _ _ _=W at *)
  | (have HZ := zH (zA (q1.alloc (.cells #[zu (x : Int)] 33)) (zA (q4.trans (Grow.alloc _ _ (.cells #[zu (x : Int)] 33))) (fix_next q1.mem.fresh (.cells #[zu (x : Int)] 33) rfl)))
     clear q1 q4
     generalize hW:w1.alloc _=W at *)
  have s5:=HZ.out.2.2.cell 0 (v:=zu (x:Int)) rfl;clear q2 hW;have hn2:=HN2.out;clear HN2
  by_cases k3:kd=3
  · have HE:=zH (HRUN.out.trans (if_pos k3))
    obtain⟨fa1,fa2,fa3,fa4,fa5⟩:=zeT (x:=kd) (c:=3) (ci:=3) (by omega);subst k3;clear hn2;go_wp2_with (first|(go_at_call 118;refine (HRD.out _).mono ?_;rintro e w2 ⟨rfl,hq⟩;have gq:=Grow.below (L:=A.L) hq;obtain⟨r3,g3,f3⟩:=allocs1 (HZ.out.1.below hq) #[zi (3:Int),zu (n:Int)] 230;have s0:=f3.cell 0 (v:=zi (3:Int)) rfl;have s1:=f3.cell 1 (v:=zu (n:Int)) rfl;have g4:=(HZ.out.2.1.trans gq).trans g3;have s5':=((HZ.out.2.2.grow gq).grow g3).cell 0 (v:=zu (x:Int)) rfl;obtain⟨d0,d1,d2,d3⟩:=HB.out _ r3 g4;have HF:=zH (zA r3 (zA g4 ((HZ.out.2.2.grow gq).grow g3)));clear r3 g3 f3 gq g4 hq)|(go_at_call 254;refine (HCl.out x _ HF.out.1).mono ?_;rintro e w4 ⟨A2,v,rfl,p1,p2,p3,p4⟩));go_ret;rw[HE.out];exact⟨A2,v,rfl,p1,HF.out.2.1.trans p2,p3,p4⟩
  · have HE0:=zH (HRUN.out.trans (if_neg k3))
    obtain⟨fa1,fa2,fa3,fa4,fa5⟩:=zeF (x:=kd) (c:=3) (ci:=3) (by omega)
    by_cases k2:kd=2
    · have HE:=zH (HE0.out.trans (if_pos k2))
      have hn5:=hn2 k2;have ew:IntKind.i64.wrap (n:Int)=(n:Int):=by rw[IntKind.wrap_i64];omega
      obtain⟨fb1,fb2,fb3,fb4,fb5⟩:=zeT (x:=kd) (c:=2) (ci:=2) (by omega);subst k2;clear hn2 hn5 k3;go_wp2_with (go_at_call 118;refine (HRD.out _).mono ?_;rintro e w2 ⟨rfl,hq⟩;have gq:=Grow.below (L:=A.L) hq;obtain⟨r3,g3,f3⟩:=allocs1 (HZ.out.1.below hq) #[zi (2:Int),zu (n:Int)] 230;have s0:=f3.cell 0 (v:=zi (2:Int)) rfl;have s1:=f3.cell 1 (v:=zu (n:Int)) rfl;have g4:=(HZ.out.2.1.trans gq).trans g3;have s5':=((HZ.out.2.2.grow gq).grow g3).cell 0 (v:=zu (x:Int)) rfl;obtain⟨d0,d1,d2,d3⟩:=HB.out _ r3 g4;have HF:=zH (zA r3 (zA g4 ((HZ.out.2.2.grow gq).grow g3)));clear r3 g3 f3 gq g4 hq);obtain⟨r5,g5,f5⟩:=allocs1 HF.out.1 #[zi (n:Int)] 3;rw[size_alloc1] at f5;have gg:=HF.out.2.1.trans g5;have HY:=zH (zA r5 (zA gg (zA f5 (HF.out.2.2.grow g5))));go_ret;rw[HE.out];obtain⟨X0,X1,X2,X3⟩:=HX.out;obtain⟨r5,gg,f5,f6⟩:=HY.out;exact⟨A,_,rfl,r5,gg,Stay.refl _ _,_,_,_,_,_,_,rfl,X0.grow gg,f5.box,X2.grow gg,X3.grow gg,X1.grow gg,f6.box⟩
    · have HE:=zH (HE0.out.trans (if_neg k2))
      obtain⟨fb1,fb2,fb3,fb4,fb5⟩:=zeF (x:=kd) (c:=2) (ci:=2) (by omega);clear k3 k2 hn2;go_wp2_with (first|(go_at_call 118;refine (HRD.out _).mono ?_;rintro e w2 ⟨rfl,hq⟩;have gq:=Grow.below (L:=A.L) hq;obtain⟨r3,g3,f3⟩:=allocs1 (HZ.out.1.below hq) #[zi (kd:Int),zu (n:Int)] 230;have s0:=f3.cell 0 (v:=zi (kd:Int)) rfl;have s1:=f3.cell 1 (v:=zu (n:Int)) rfl;have g4:=(HZ.out.2.1.trans gq).trans g3;have s5':=((HZ.out.2.2.grow gq).grow g3).cell 0 (v:=zu (x:Int)) rfl;obtain⟨d0,d1,d2,d3⟩:=HB.out _ r3 g4;have HF:=zH (zA r3 (zA g4 ((HZ.out.2.2.grow gq).grow g3)));clear r3 g3 f3 gq g4 hq)|(go_at_call 170;refine (HAb.out _ HF.out.1).mono ?_;rintro e w4 ⟨A2,v,rfl,p1,p2,p3,p4⟩));go_ret;rw[HE.out];exact⟨A2,v,rfl,p1,HF.out.2.1.trans p2,p3,p4⟩
theorem k_free {A:Book} {σ:St} {w:World} (hR:Rep A σ w) (s:Nat) (t:Txn) (ht:σ.txns.getD s none=some t) (link head at_:Nat) (hv0:link=0∨VL σ link) (hva:VL σ at_) (hp:PoolOk σ) (hx:σ.word (wslot at_ 0)<18446744073709551616) (hcnt:σ.count<4000000000000000000) (b0 b1 b2 b3 b4 b5:Nat)
 (B0:Box A.L w b0 (.pointer (some ⟨A.be,0,none⟩))) (B1:Box A.L w b1 (zu (at_:Int))) (B2:Box A.L w b2 (.pointer (some ⟨A.bt s,0,none⟩))) (B3:NextBox (kp A σ s) A.L w b3 link head at_) (B4:Box A.L w b4 (.pointer (some ⟨A.bc s,0,none⟩))) (B5:Box A.L w b5 (zu (link:Int))):
 Calls Tryz.prog 284 #[.pointer (some ⟨b0,0,none⟩),.pointer (some ⟨b1,0,none⟩),.pointer (some ⟨b2,0,none⟩),.pointer (some ⟨b3,0,none⟩),.pointer (some ⟨b4,0,none⟩),.pointer (some ⟨b5,0,none⟩)] w (Ran A w s (σ.run s (.free link head at_))):=by
 have hsl:=hR.sl;obtain⟨nv,X3,m0,m1,m2,m3,m4,m5,hnv,N0,N1,N2,N3,N4,N5⟩:=B3;have c0:=B0.cell;have c1:=B1.cell;have e2:=hR.z2;have HSl:=zH (slot_at at_ 0 0 rfl hva.lo (by have:=hva.hi;omega) hva.u (by omega));have HL:Hid (∀ w',Rep A σ w'→Calls Tryz.prog 66 #[.pointer (some ⟨A.ba,0,none⟩),zi ((wslot at_ 0:Nat):Int)] w' (Did A w' σ.tick (zu (σ.word (wslot at_ 0):Int)))):=fun w' r=>load_any r (wslot at_ 0) (wslot_lt hR hva.lo hva.hi (by omega)) hcnt
 have HKK:Hid (∀ w',Rep A σ.tick w'→Grow A.L w A.L w'→w'.cell? ⟨b0,0,none⟩=some (.pointer (some ⟨A.be,0,none⟩))∧w'.cell? ⟨b1,0,none⟩=some (zu (at_:Int))∧w'.cell? ⟨A.be,2,none⟩=some (.pointer (some ⟨A.ba,0,none⟩))):=fun w' r g=>⟨(B0.grow g).cell,(B1.grow g).cell,r.eng 2 rfl⟩
 have hrd:=rd_any (σ.word (wslot at_ 0)) hx;have HRD:=zH hrd;have HRd:Hid (Rep A σ w.drew):=hR.drew;have HG:=zG A.L w;have HFX:Hid (Fix A.L (w.drew.alloc (.cells #[zi 0,zu 0] 230)) w.heap.size (.cells #[zi 0,zu 0] 230)):=fix_next hR.drew.mem.fresh _ rfl;have x0:=World.new_ne w _ c0;have x1:=World.new_ne w _ c1;have x3:=World.new_ne w _ e2;generalize hkd:(rd (σ.word (wslot at_ 0))).1=kd at*;generalize hn:(rd (σ.word (wslot at_ 0))).2=n at*;have HST:Hid (∀ w2 b,Rep A σ.tick w2→Grow A.L w A.L w2→w.heap.size≤b→Fix A.L w2 b (.cells #[zi 0,zu 0] 230)→Rep A σ.tick ((w2.setCell ⟨b,0,none⟩ (zi (kd:Int))).setCell ⟨b,1,none⟩ (zu (n:Int)))∧Grow A.L w A.L ((w2.setCell ⟨b,0,none⟩ (zi (kd:Int))).setCell ⟨b,1,none⟩ (zu (n:Int)))∧Fix A.L ((w2.setCell ⟨b,0,none⟩ (zi (kd:Int))).setCell ⟨b,1,none⟩ (zu (n:Int))) b (.cells #[zi (kd:Int),zu (n:Int)] 230)):=fun w2 b r g hb fx=>hR.stamp r g rfl hb fx _ _
 have HSZ:Hid (∀ w1,Grow A.L w A.L w1→w.heap.size≤w1.heap.size):=fun w1 g=>g.size
 have HB:Hid (∀ w1,Rep A σ.tick w1→Grow A.L w A.L w1→w1.cell? ⟨b0,0,none⟩=some (.pointer (some ⟨A.be,0,none⟩))∧w1.cell? ⟨b2,0,none⟩=some (.pointer (some ⟨A.bt s,0,none⟩))∧w1.cell? ⟨b3,0,none⟩=some nv∧w1.cell? ⟨b4,0,none⟩=some (.pointer (some ⟨A.bc s,0,none⟩))∧w1.cell? ⟨b5,0,none⟩=some (zu (link:Int))∧w1.cell? ⟨A.bt s,3,none⟩=some (zu (t.begin_:Int))):=
  fun w1 q g=>⟨(B0.grow g).cell,(B2.grow g).cell,(X3.grow g).cell,(B4.grow g).cell,(B5.grow g).cell,q.txn (s:=s) (t:=t) ht 3 rfl⟩
 have HLost:Hid (∀ w1,Rep A σ.tick w1→Grow A.L w A.L w1→Calls Tryz.prog 285 #[.pointer (some ⟨A.be,0,none⟩),.pointer (some ⟨A.bt s,0,none⟩),.pointer (some ⟨A.bc s,0,none⟩),zu (link:Int)] w1 (Tells A w1 s (σ.tick.lost link))):=fun w1 q g=>lost_any q s link (hv0.imp (fun h=>h) fun h=>⟨h.lo,h.hi,h.u⟩) ⟨hp.n,hp.free,hp.tag,hp.worn⟩
 have hrun:σ.run s (.free link head at_)=if kd=1∧n≤t.begin_ then (σ.tick,some (.next link head at_)) else if kd≠2 then ((σ.tick.lost link).1,some (σ.tick.lost link).2) else (σ.tick,some (.freeTxn link head at_ n)):=by
  have e:σ.tick.t s=t:=txn_get ht;simp only[St.run,hkd,hn,e]
 have HX:Hid (Box A.L w b0 (.pointer (some ⟨A.be,0,none⟩))∧Box A.L w b1 (zu (at_:Int))∧Box A.L w b2 (.pointer (some ⟨A.bt s,0,none⟩))∧Box A.L w b3 nv∧Box A.L w b4 (.pointer (some ⟨A.bc s,0,none⟩))∧Box A.L w b5 (zu (link:Int))∧Box A.L w m0 (ptr (kp A σ s).e)∧Box A.L w m1 (ptr (kp A σ s).t)∧Box A.L w m2 (ptr (kp A σ s).c)∧Box A.L w m3 (u64 link)∧Box A.L w m4 (u64 head)∧Box A.L w m5 (u64 at_)):=⟨B0,B1,B2,X3,B4,B5,N0,N1,N2,N3,N4,N5⟩
 subst hnv;have HRUN:=zH hrun;generalize σ.run s (.free link head at_)=rr at*;clear hR hcnt hva hv0 hp hx hrd hkd hn hrun ht hsl B0 B1 B2 X3 B4 B5 N0 N1 N2 N3 N4 N5;generalize t.begin_=bg at*;generalize σ.word (wslot at_ 0)=x at*;go_enter Tryz.func284,Tryz.ntmps284;go_wp2_with fail
 go_region_held3 (fun w'=>w'.cell? ⟨b0,0,none⟩=some (.pointer (some ⟨A.be,0,none⟩))∧w'.cell? ⟨b1,0,none⟩=some (zu (at_:Int))∧w'.cell? ⟨A.be,2,none⟩=some (.pointer (some ⟨A.ba,0,none⟩)))
  (first|exact⟨c0,c1,e2⟩|assumption|exact HKK.out _ q1 q4|exact HKK.out _ (q1.alloc _) (q4.trans (Grow.alloc _ _ _))|exact HKK.out _ r2 g2|exact HKK.out _ (r2.alloc _) (g2.trans (Grow.alloc _ _ _))|exact HKK.out _ (HST.out _ _ r2 g2 hb FX.out).1 (HST.out _ _ r2 g2 hb FX.out).2.1|go_keep)
  (first|(go_at_call 79;refine (HSl.out _).mono ?_;rintro e w' ⟨rfl,rfl⟩)|(go_at_call 66;refine (HL.out _ HRd.out).mono ?_;rintro e w1 ⟨rfl,q1,q2⟩;have q4:=HG.out.trans q2)|(go_at_call 66;refine (HL.out _ (HRd.out.alloc _)).mono ?_;rintro e w1 ⟨rfl,q1,q2⟩;have q4:=(HG.out.trans (Grow.alloc _ _ _)).trans q2;have FX1:=zH (HFX.out.grow q2))|(go_at_call 118;refine (HRD.out _).mono ?_;rintro e w2 ⟨rfl,hq⟩;have r2:=q1.below hq;have g2:=q4.trans (Grow.below hq);have FX:=zH (FX1.out.grow (Grow.below hq));have hb:=Nat.le_refl w.heap.size;have nb0:=FX.out.cell 0 (v:=zi 0) rfl;have nb1:=FX.out.cell 1 (v:=zu 0) rfl;have nz0:=FX.out.frozen 0;have nz1:=FX.out.frozen 1)|(go_at_call 118;refine (HRD.out _).mono ?_;rintro e w2 ⟨rfl,hq⟩;have r2:=(q1.alloc _).below hq;have g2:=(q4.trans (Grow.alloc A.L _ _)).trans (Grow.below hq);have FX:=zH ((fix_next q1.mem.fresh (.cells #[zi 0,zu 0] 230) rfl).grow (Grow.below (L:=A.L) hq));have hb:=HSZ.out _ q4;have nb0:=FX.out.cell 0 (v:=zi 0) rfl;have nb1:=FX.out.cell 1 (v:=zu 0) rfl;have nz0:=FX.out.frozen 0;have nz1:=FX.out.frozen 1)|(go_at_call 118;refine (HRD.out _).mono ?_;rintro e w2 ⟨rfl,hq⟩;have r2:=q1.below hq;have g2:=q4.trans (Grow.below hq)))
 all_goals
  rename_i hHeld;clear hHeld x0 x1 x3 c0 c1 e2
  first
  | (have HZ := zH (HST.out _ _ r2 g2 hb FX.out)
     clear FX hb nb0 nb1 nz0 nz1 r2 g2 q1 q4
     generalize hW:(World.setCell _ _ _).setCell _ _=W at *)
  | (have HZ := zH (zA (r2.alloc (.cells #[zi (kd : Int), zu (n : Int)] 230)) (zA (g2.trans (Grow.alloc _ _ (.cells #[zi (kd : Int), zu (n : Int)] 230))) (fix_next r2.mem.fresh (.cells #[zi (kd : Int), zu (n : Int)] 230) rfl)))
     clear r2 g2 q1 q4
     generalize hW:w2.alloc _=W at *)
  obtain⟨r3,g3,f3⟩:=HZ.out;have s0:=f3.cell 0 (v:=zi (kd:Int)) rfl;have s1:=f3.cell 1 (v:=zu (n:Int)) rfl;obtain⟨d0,d2,d3,d4,d5,t3⟩:=HB.out W r3 g3;clear f3 r3 g3 hW hq q2
  by_cases k1:kd=1
  · have fa1:((kd:Int)==1)=true:=by simp<;>omega
    have fa2:((kd:Int)=1)=True:=by simp<;>omega
    have fa3:(kd=1)=True:=by simp<;>omega
    have fa4:(kd==1)=true:=by simp<;>omega
    have fa5:((kd:Int) !=1)=false:=by simp<;>omega
    obtain⟨fe1,fe2,fe3,fe4,fe5⟩:=zeF (x:=kd) (c:=2) (ci:=2) (by omega)
    by_cases hna:n≤bg
    · have HE:=zH (HRUN.out.trans (if_pos ⟨k1,hna⟩))
      obtain⟨fb1,fb2,fb3,fb4⟩:=zmt (x:=n) (c:=bg) (xi:=(n:Int)) (ci:=(bg:Int)) (by omega);subst k1;clear hna;go_wp2_with fail
      go_quiet (fail)
      go_wp2_with fail;go_ret;rw[HE.out];obtain⟨X0,X1,X2,X3,X4,X5,N0,N1,N2,N3,N4,N5⟩:=HX.out;have gg:=fun n=>HZ.out.2.1.trans (Grow.drewN _ _ n)
      exact⟨A,_,rfl,HZ.out.1.drewN _,gg _,Stay.refl _ _,_,_,_,_,_,_,rfl,N0.grow (gg _),N1.grow (gg _),N2.grow (gg _),N3.grow (gg _),N4.grow (gg _),N5.grow (gg _)⟩
    · have HE:=zH ((HRUN.out.trans (if_neg (fun h=>hna h.2))).trans (if_pos (by omega)))
      obtain⟨fb1,fb2,fb3,fb4⟩:=zmf (x:=n) (c:=bg) (xi:=(n:Int)) (ci:=(bg:Int)) (by omega);subst k1;clear hna;go_wp2_with fail
      go_quiet (fail)
      go_wp2_with (go_at_call 285;refine (HLost.out _ (HZ.out.1.drewN _) (HZ.out.2.1.trans (Grow.drewN _ _ _))).mono ?_;rintro e w4 ⟨A2,v,rfl,p1,p2,p3,p4⟩);go_ret;rw[HE.out];exact⟨A2,v,rfl,p1,(HZ.out.2.1.trans (Grow.drewN _ _ _)).trans p2,p3,p4⟩
  · have HE0:=zH (HRUN.out.trans (if_neg (fun h=>k1 h.1)))
    obtain⟨fa1,fa2,fa3,fa4,fa5⟩:=zeF (x:=kd) (c:=1) (ci:=1) (by omega)
    by_cases k2:kd=2
    · have fe1:((kd:Int)==2)=true:=by simp<;>omega
      have fe2:((kd:Int)=2)=True:=by simp<;>omega
      have fe3:(kd=2)=True:=by simp<;>omega
      have fe4:(kd==2)=true:=by simp<;>omega
      have fe5:((kd:Int) !=2)=false:=by simp<;>omega
      have HE:=zH (HE0.out.trans (if_neg (fun h=>h k2)));subst k2;clear k1;go_wp2_with fail
      go_quiet (fail)
      go_wp2_with fail;go_ret;rw[HE.out];obtain⟨X0,X1,X2,X3,X4,X5,N0,N1,N2,N3,N4,N5⟩:=HX.out;have gd:=fun n=>Grow.drewN A.L W n
      have gg:=fun n=>HZ.out.2.1.trans (gd n)
      exact⟨A,_,rfl,HZ.out.1.drewN _,gg _,Stay.refl _ _,_,_,_,_,_,_,rfl,X0.grow (gg _),⟨_,HZ.out.2.2.grow (gd _)⟩,X2.grow (gg _),⟨_,X3.grow (gg _),_,_,_,_,_,_,rfl,N0.grow (gg _),N1.grow (gg _),N2.grow (gg _),N3.grow (gg _),N4.grow (gg _),N5.grow (gg _)⟩,X4.grow (gg _),X5.grow (gg _)⟩
    · have HE:=zH (HE0.out.trans (if_pos k2))
      obtain⟨fe1,fe2,fe3,fe4,fe5⟩:=zeF (x:=kd) (c:=2) (ci:=2) (by omega);clear k1 k2;go_wp2_with fail
      go_quiet (fail)
      go_wp2_with (go_at_call 285;refine (HLost.out _ (HZ.out.1.drewN _) (HZ.out.2.1.trans (Grow.drewN _ _ _))).mono ?_;rintro e w4 ⟨A2,v,rfl,p1,p2,p3,p4⟩);go_ret;rw[HE.out];exact⟨A2,v,rfl,p1,(HZ.out.2.1.trans (Grow.drewN _ _ _)).trans p2,p3,p4⟩
end Go.Proofs.YtiimlopcifljeaaGreatDoor.Em
