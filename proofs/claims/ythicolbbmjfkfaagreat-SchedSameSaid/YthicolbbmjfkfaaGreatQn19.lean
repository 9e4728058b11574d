import Derived.Test.YthicolbbmjfkfaaGreatQn9
import Derived.Test.YthicolbbmjfkfaaGreatQn11
set_option linter.unusedVariables false
set_option linter.unusedSimpArgs false
set_option maxRecDepth 100000
set_option maxHeartbeats 1600000
namespace Go.Proofs.YthicolbbmjfkfaaGreat.Em
open Go.ChangeShapes Go.WideShapes Go.ChangeAt Go.RowKit En
variable {A:au} {D:St} {w:World}
theorem bV {w:World} {o:Obj} {a:Addr} {v:Value} (h:w.cell? a=some v):(w.alloc o).cell? a=some v:=by
 rw[World.cell?_alloc_some _ _ _ (by rw[h];rfl)];exact h
theorem iW.form {A:au} {l:List (Nat×Nat)} (h:iW A l):∃ av n c,A.iV=.slice av n c:=by
 rcases h with ⟨-,h,-⟩|⟨-,k,cap,h,-⟩<;>exact⟨_,_,_,h⟩
theorem Gl (hR:aC A D w) (F ak G nx:Nat) (Z:F<=63) (hah:ak=0) (hok:D.word (9+F)≠G) (aL:D.count<4000000000000000000) (b0 b1 b2 b3 b4:Nat) (B0:aN A.L w b0 (zu ak)) (B1:aN A.L w b1 (R A.H 0)) (B2:aN A.L w b2 (zu nx)) (B3:aN A.L w b3 (I F)) (B4:aN A.L w b4 (zu G)):
 zk 222 #[R b0 0,R b1 0,R b2 0,R b3 0,R b4 0] w (tN A D w (D.aG (.cut F ak G nx))):=by
 have c0:=B0.cell;have c1:=B1.cell;have c2:=B2.cell;have c3:=B3.cell;have c4:=B4.cell;have e2:=hR.z2;have hsl:=hR.sl;have n1:IntKind.i64.wrap (9+(F:Int))=9+(F:Int):=by rw[jG];omega
 have nT:Hid (aC A D w.drew):=hR.drew;have HG:=zG A.L w;have HKK:Hid (∀ bB E,aC A bB E->Grow A.L w A.L E->zV E b0 0 ak∧zS E b1 0 A.H 0∧zV E b2 0 nx∧zT E b3 0 F∧zV E b4 0 G∧zS E A.H 2 A.ba 0):=fun bB E r g=>⟨(B0.grow g).cell,(B1.grow g).cell,(B2.grow g).cell,(B3.grow g).cell,(B4.grow g).cell,r.df 2 rfl⟩
 have vH:Hid (∀ bB E x,aC A bB E->Grow A.L w A.L E->zV (E.setCell (J A.H 25) x) b0 0 ak∧zS (E.setCell (J A.H 25) x) b1 0 A.H 0∧zV (E.setCell (J A.H 25) x) b2 0 nx∧zT (E.setCell (J A.H 25) x) b3 0 F∧zV (E.setCell (J A.H 25) x) b4 0 G∧zS (E.setCell (J A.H 25) x) A.H 2 A.ba 0):=fun bB E x r g=>let ⟨r',g'⟩:=r.fK x .now;⟨(B0.grow (g.trans g')).cell,(B1.grow (g.trans g')).cell,(B2.grow (g.trans g')).cell,(B3.grow (g.trans g')).cell,(B4.grow (g.trans g')).cell,r'.df 2 rfl⟩
 have f1:((ak:Int)=0)=True:=by simp;omega
 have f2:((ak:Int)==0)=true:=by simp;omega
 have f3:((ak:Int) !=0)=false:=by simp;omega
 have LA:Hid (∀ E,aC A D E->zk 45 #[R A.ba 0,I (9+(F:Int)),zu G,zu nx] E (vC A E D.tick (.bool false))):=fun E r=>by
  have hh:=nO r (9+F) G nx (by rw[r.nw];omega) aL;rw[show ((9+F:Nat):Int)=9+(F:Int) by omega,show D.cB (9+F) G nx=D.tick by unfold St.cB;rw[aR hok],show (D.word (9+F)==G)=false by simpa using hok] at hh;exact hh
 have HM:Hid (∀ E,aC A D.tick E->zk 135 #[R A.H 0,I F] E (iL A D.tick E (mI F))):=fun E r=>uH r F (by omega)
 have jK:D.aG (.cut F ak G nx)=({D.tick with sw:=mI F},true):=by simp only[St.aG];rw[aR (fun h=>h hah),aR hok]
 rw[jK,show mI F=some (.head F) by unfold mI;rw[aR (by omega)]];rw[show mI F=some (.head F) by unfold mI;rw[aR (by omega)]] at HM;clear hR aL hok B0 B1 B2 B3 B4 hsl jK hah Z;go_enter Tryz.func222,Tryz.ntmps222;go_wp2_with fail
 go_region_held3 (fun E=>zV E b0 0 ak∧zS E b1 0 A.H 0∧zV E b2 0 nx∧zT E b3 0 F∧zV E b4 0 G∧zS E A.H 2 A.ba 0)
  (first|exact⟨c0,c1,c2,c3,c4,e2⟩|assumption|go_keep|exact HKK.out _ _ (by assumption) (by assumption))
  (first|(go_at_call 45;refine (LA.out _ nT.out).mono ?_;rintro e Y ⟨rfl,q1,q2⟩;have q4:=HG.out.trans q2;clear q2))
 obtain⟨d0,d1,d2,d3,d4,d5⟩:=HKK.out _ _ q1 q4;have uK:=zH q1.drew;have Bq:=zH (q4.trans (Grow.drew _ _));clear q1 q4;go_wp2_with fail
 go_region_held3 (fun E=>zV E b0 0 ak∧zS E b1 0 A.H 0∧zV E b2 0 nx∧zT E b3 0 F∧zV E b4 0 G∧zS E A.H 2 A.ba 0)
  (first|exact⟨d0,d1,d2,d3,d4,d5⟩|assumption|go_keep|exact HKK.out _ _ (by assumption) (by assumption)|exact vH.out _ _ _ (by assumption) (by assumption))
  (first|(go_at_call 135;refine (HM.out _ uK.out).mono ?_;rintro e w2 ⟨v,rfl,p1,p2,p3⟩;obtain⟨fv,fb,fc,e3⟩:=jm.form p3;subst e3;obtain⟨vo,y25⟩:∃ vo,w2.cell? (J A.H 25)=some vo:=⟨_,p1.df 25 (v:=A.sv D.tick.sw) rfl⟩;have z25:=p1.iC 25;have q5:=Bq.out.trans p2;have HP:=zH p3;clear p2 p3))
 go_wp2_with fail;go_ret;obtain⟨A',a1,a2,a3,a4,a5⟩:=p1.eT _ _ HP.out;exact⟨rfl,A',a1,a3,q5.trans a4,a5,fun hc=>hc.keep a2 rfl (q5.trans a4)⟩
set_option maxHeartbeats 16000000 in
theorem Ea (hR:aC A D w) (F ak G nx:Nat) (Z:F<=63) (hah:ak=0∧D.word (9+F)=G∨VL D ak) (hck:iW A D.cut) (hln:D.cut.length<1000000) (aL:D.count<4000000000000000000) (b0 b1 b2 b3 b4:Nat) (B0:aN A.L w b0 (zu ak)) (B1:aN A.L w b1 (R A.H 0)) (B2:aN A.L w b2 (zu nx)) (B3:aN A.L w b3 (I F)) (B4:aN A.L w b4 (zu G)):
 zk 222 #[R b0 0,R b1 0,R b2 0,R b3 0,R b4 0] w (tN A D w (D.aG (.cut F ak G nx))):=by
 have c0:=B0.cell;have c1:=B1.cell;have c2:=B2.cell;have c3:=B3.cell;have c4:=B4.cell;have e2:=hR.z2;have hsl:=hR.sl;have n1:IntKind.i64.wrap (9+(F:Int))=9+(F:Int):=by rw[jG];omega
 have nT:Hid (aC A D w.drew):=hR.drew;have HG:=zG A.L w;have HKK:Hid (∀ bB E,aC A bB E->Grow A.L w A.L E->zV E b0 0 ak∧zS E b1 0 A.H 0∧zV E b2 0 nx∧zT E b3 0 F∧zV E b4 0 G∧zS E A.H 2 A.ba 0):=fun bB E r g=>⟨(B0.grow g).cell,(B1.grow g).cell,(B2.grow g).cell,(B3.grow g).cell,(B4.grow g).cell,r.df 2 rfl⟩
 have Kr:Hid (∀ L' E,Grow A.L w L' E->zV E b0 0 ak∧zS E b1 0 A.H 0∧zV E b2 0 nx∧zT E b3 0 F∧zV E b4 0 G):=fun L' E g=>⟨(B0.grow g).cell,(B1.grow g).cell,(B2.grow g).cell,(B3.grow g).cell,(B4.grow g).cell⟩
 obtain⟨Nu,n0,c0',uB⟩:=hck.form
 rcases hah with ⟨hah,hok⟩|hah
 . have f1:((ak:Int)=0)=True:=by simp;omega
   have f2:((ak:Int)==0)=true:=by simp;omega
   have f3:((ak:Int) !=0)=false:=by simp;omega
   have LA:Hid (∀ E,aC A D E->zk 45 #[R A.ba 0,I (9+(F:Int)),zu G,zu nx] E (vC A E (D.put (9+F) nx) (.bool true))):=fun E r=>by
    have hh:=nO r (9+F) G nx (by rw[r.nw];omega) aL;rw[show ((9+F:Nat):Int)=9+(F:Int) by omega,show D.cB (9+F) G nx=D.put (9+F) nx by unfold St.cB;rw[aV hok],show (D.word (9+F)==G)=true by rw[hok];simp] at hh;exact hh
   have jK:D.aG (.cut F ak G nx)=({D.put (9+F) nx with cut:=D.cut++[(G,D.seq)],cuts:=D.cuts+1,sw:=iG F ak nx},true):=by simp only[St.aG];rw[aR (fun h=>h hah),aV hok]
   rw[jK];obtain⟨zh,Gm⟩:∃ zh,zh=D.put (9+F) nx:=⟨_,rfl⟩
   have Pm:Hid (zh.cut=D.cut∧zh.seq=D.seq∧zh.cuts=D.cuts):=by rw[Gm];exact⟨rfl,rfl,rfl⟩
   have UK:Hid (iW A zh.cut∧zh.cut.length<1000000):=by rw[Pm.out.1];exact⟨hck,hln⟩
   rw[<-Gm] at LA ⊢;clear hR aL hok B0 B1 B2 B3 B4 hsl jK hah Gm hck hln;go_enter Tryz.func222,Tryz.ntmps222;go_wp2_with fail
   go_region_held3 (fun E=>zV E b0 0 ak∧zS E b1 0 A.H 0∧zV E b2 0 nx∧zT E b3 0 F∧zV E b4 0 G∧zS E A.H 2 A.ba 0)
    (first|exact⟨c0,c1,c2,c3,c4,e2⟩|assumption|go_keep|exact HKK.out _ _ (by assumption) (by assumption))
    (first|(go_at_call 45;refine (LA.out _ nT.out).mono ?_;rintro e Y ⟨rfl,q1,q2⟩;have q4:=HG.out.trans q2;clear q2))
   obtain⟨d0,d1,d2,d3,d4,d5⟩:=HKK.out _ _ q1 q4;have y27:Y.cell? (J A.H 27)=some (.slice Nu n0 c0'):=(q1.df 27 rfl).trans (congrArg some uB);have z27:=q1.iC 27;have y22:Y.cell? (J A.H 22)=zt (D.seq:Int):=(q1.df 22 rfl).trans (by rw[Pm.out.2.1]);have HQ:=zH (zA q1 q4);clear q1 q4;go_wp2_with fail;refine wp_region_held_drew (S:=fun E=>zS E b1 0 A.H 0∧zV E b4 0 G∧zT E A.H 22 (D.seq:Int)) (by kernel_rfl) ?_ (fun bD=>?_)
   . (try dsimp only);exact⟨d1,d4,y22⟩
   have Pn:=zH (zA HQ.out.1.drew (HQ.out.2.trans (Grow.drew A.L Y)));have LW:Y.drew.cell? (J A.H 27)=some (.slice Nu n0 c0'):=y27;have RD:Y.drew.frozen? (J A.H 27)=false:=z27;clear d0 d1 d2 d3 d4 d5 y22 y27 z27 HQ;generalize Y.drew=vd at*;have RF:∀ ob,(vd.alloc ob).cell? (J A.H 27)=some (.slice Nu n0 c0'):=fun ob=>bV LW
   refine pY (i:=0) rfl bD ?_
   (try simp only[lF,lG,lH,Act.put,lJ,lK,lL])
   refine pY (i:=1) rfl bD ?_
   (try simp only[lF,lG,lH,Act.put,lJ,lK,lL])
   refine pY (i:=2) rfl bD ?_
   (try simp only[lF,lG,lH,Act.put,lJ,lK,lL])
   refine pY (i:=3) rfl bD ?_
   (try simp only[lF,lG,lH,Act.put,lJ,lK,lL])
   refine pY (i:=4) rfl bD ?_
   (try simp only[lF,lG,lH,Act.put,lJ,lK,lL])
   refine pY (i:=6) rfl bD ?_
   (try simp only[lF,lG,lH,Act.put,lJ,lK,lL])
   refine pY (i:=7) rfl bD ?_
   (try simp only[lF,lG,lH,Act.put,lJ,lK,lL])
   refine pY (i:=8) rfl bD ?_
   (try simp only[lF,lG,lH,Act.put,lJ,lK,lL])
   refine pY (i:=9) rfl bD ?_
   (try simp only[lF,lG,lH,Act.put,lJ,lK,lL])
   refine pY (i:=10) rfl bD ?_
   (try simp only[lF,lG,lH,Act.put,lJ,lK,lL])
   refine pY (i:=11) rfl bD ?_
   (try simp only[lF,lG,lH,Act.put,lJ,lK,lL])
   refine wpAnyH_ready (rs:=[5,12]) (by kernel_rfl) (by simp) ?_;refine AllReadyH.cons (o:=_) rfl (fun K hK=>?_) (AllReadyH.cons (o:=_) rfl (fun K hK=>?_) AllReadyH.nil)
   focus (
    go_simp
    refine hK.out _ _ ?_ (fun bD=>?_)
    . (try dsimp only);exact bD
    clear hK K
    (try simp only[lF,lG,lH,Act.put,lJ,lK,lL])
    refine wpAnyH_ready (rs:=[12]) (by kernel_rfl) (by simp) ?_
    refine AllReadyH.cons (o:=_) rfl (fun K hK=>?_) AllReadyH.nil
    go_simp
    refine hK.out _ _ ?_ (fun bD=>?_)
    . (try dsimp only);exact⟨bV bD.1,bV bD.2.1,bV bD.2.2⟩
    clear hK K
    (try simp only[lF,lG,lH,Act.put,lJ,lK,lL])
   )
   rotate_left
   focus (
    go_simp
    refine hK.out _ _ ?_ (fun bD=>?_)
    . (try dsimp only);exact⟨bV bD.1,bV bD.2.1,bV bD.2.2⟩
    clear hK K
    (try simp only[lF,lG,lH,Act.put,lJ,lK,lL])
    refine wpAnyH_ready (rs:=[5]) (by kernel_rfl) (by simp) ?_
    refine AllReadyH.cons (o:=_) rfl (fun K hK=>?_) AllReadyH.nil
    go_simp
    refine hK.out _ _ ?_ (fun bD=>?_)
    . (try dsimp only);exact bD
    clear hK K
    (try simp only[lF,lG,lH,Act.put,lJ,lK,lL])
   )
   rotate_left
   all_goals (
    refine wpAnyH_ready (rs:=[13]) (by kernel_rfl) (by simp) ?_
    refine AllReadyH.cons (o:=_) rfl (fun K hK=>?_) AllReadyH.nil
    rw[aV (by rfl)]
    refine Iq vd (vd.alloc (.cells #[zu G,I (D.seq:Int)] 203)) (.tmp 38) (.tmp 45) rfl Pn.out.1 UK.out.1 UK.out.2 (.slice Nu n0 c0') uB.symm rfl (G,D.seq) rfl rfl ?_;intro mr nl gp wl hon;obtain⟨L2,hc2,g2',cs2,UE,cap2,WW,rl,gl,RG⟩:=hon;have RH:wl.cell? (J A.H 27)=some (.slice Nu n0 c0'):=(rl.df 27 rfl).trans (congrArg some uB);have RI:wl.frozen? (J A.H 27)=false:=rl.iC 27;have t1:=(Kr.out _ _ (Pn.out.2.trans gl)).2.1;have t4:=(Kr.out _ _ (Pn.out.2.trans gl)).2.2.2.2;have t22:wl.cell? (J A.H 22)=zt (D.seq:Int):=(rl.df 22 rfl).trans (by rw[Pm.out.2.1]);have Ko:=zH (zA rl (zA (Pn.out.2.trans gl) (by rw[Pm.out.1] at RG;exact RG)));clear WW gl RG;have RJ:Hid (zS (wl.setCell (J A.H 27) (.slice mr nl gp)) b1 0 A.H 0∧zV (wl.setCell (J A.H 27) (.slice mr nl gp)) b4 0 G∧zT (wl.setCell (J A.H 27) (.slice mr nl gp)) A.H 22 (D.seq:Int)):=⟨(Kr.out _ _ (Ko.out.2.1.trans (rl.qj (.slice mr nl gp) [] 0).2)).2.1,(Kr.out _ _ (Ko.out.2.1.trans (rl.qj (.slice mr nl gp) [] 0).2)).2.2.2.2,by rw[World.cell?_setCell_other _ _ _ _ (by simp)];exact t22⟩;clear rl
    refine hK.out _ _ ?_ (fun bD=>?_)
    . (try dsimp only);exact⟨t1,t4,t22⟩
    clear hK K
    (try simp only[lF,lG,lH,Act.put,lJ,lK,lL])
    refine pY (i:=14) rfl bD ?_
    (try simp only[lF,lG,lH,Act.put,lJ,lK,lL])
    refine pY (i:=15) rfl bD ?_
    (try simp only[lF,lG,lH,Act.put,lJ,lK,lL])
    refine pY (i:=16) rfl bD ?_
    (try simp only[lF,lG,lH,Act.put,lJ,lK,lL])
    refine wpAnyH_ready (rs:=[17]) (by kernel_rfl) (by simp) ?_
    refine AllReadyH.cons (o:=_) rfl (fun K hK=>?_) AllReadyH.nil
    go_simp
    refine hK.out _ _ ?_ (fun bD=>?_)
    . (try dsimp only);exact RJ.out
    clear hK K
    (try simp only[lF,lG,lH,Act.put,lJ,lK,lL])
    refine wpAnyH_done (by kernel_rfl) ?_ _
   )
   all_goals (
    clear t1 t4 t22 bD LW RD RF
    obtain⟨LX,LY,L6⟩:=Ko.out
    obtain⟨r5,g5⟩:=LX.qj (.slice mr nl gp) (D.cut++[(G,D.seq)]) (D.cuts+1)
    obtain⟨A2,hA2⟩:∃ A2:au,A2={A with L:=L2,hcut:=hc2,fP:=g2',dV:=cs2,iV:=.slice mr nl gp}:=⟨_,rfl⟩
    have Gn:A2.H=A.H:=by rw[hA2]
    have WX:A2.L=L2:=by rw[hA2]
    have hso:kK A A2:=by rw[hA2];exact⟨⟨_,_,_,_,_,_,_,_,rfl⟩,rfl⟩
    have hck:iW A2 (D.cut++[(G,D.seq)]):=by rw[hA2];exact L6
    replace r5:aC A2 {zh with cut:=D.cut++[(G,D.seq)],cuts:=D.cuts+1} (wl.setCell (J A.H 27) (.slice mr nl gp)):=by rw[hA2];exact r5
    generalize iZ:wl.setCell (J A.H 27) (.slice mr nl gp)=w5 at*
    have hg5:Grow A.L w A2.L w5:=by rw[WX];exact LY.trans g5
    have Po:=zH (zA hso (zA Gn hck))
    have hM:=pF r5.drew F ak nx Z
    rw[Gn] at hM
    have HM:=zH hM
    clear hM Z hA2 hso hck LX LY L6 g5 Ko RH RI
    have Gp:Hid (∀ bB E,aC A2 bB E->Grow A.L w A2.L E->zV E b0 0 ak∧zS E b1 0 A.H 0∧zV E b2 0 nx∧zT E b3 0 F∧zV E b4 0 G):=fun bB E r g=>Kr.out _ E g
    have L8:Hid (∀ bB E x,aC A2 bB E->Grow A.L w A2.L E->zV (E.setCell (J A.H 25) x) b0 0 ak∧zS (E.setCell (J A.H 25) x) b1 0 A.H 0∧zV (E.setCell (J A.H 25) x) b2 0 nx∧zT (E.setCell (J A.H 25) x) b3 0 F∧zV (E.setCell (J A.H 25) x) b4 0 G):=fun bB E x r g=>by
     have h:=(r.fK x .now).2
     rw[Gn] at h
     exact Kr.out _ _ (g.trans h)
    obtain⟨g0,g1,g2,g3,g4⟩:=Gp.out _ _ r5 hg5
    have UL:=zH (hg5.trans (Grow.drew A2.L w5))
    clear hg5 r5
    cases hkk:iG F ak nx with
    |none=>
     rw[hkk] at HM
     go_wp2_with fail
     go_region_held3 (fun E=>zV E b0 0 ak∧zS E b1 0 A.H 0∧zV E b2 0 nx∧zT E b3 0 F∧zV E b4 0 G)
      (first|exact⟨g0,g1,g2,g3,g4⟩|assumption|go_keep|exact Gp.out _ _ (by assumption) (by assumption)|exact L8.out _ _ _ (by assumption) (by assumption))
      (first|(go_at_call 160;refine HM.out.mono ?_;rintro e w2 ⟨v,rfl,p1,p2,p3⟩;have e3:v=.nilFunc:=p3;subst e3;have z25:=p1.iC 25;obtain⟨vo,y25⟩:∃ vo,w2.cell? (J A2.H 25)=some vo:=⟨_,p1.df 25 rfl⟩;rw[Po.out.2.1] at z25 y25;have q5:=UL.out.trans p2;have HP:=zH p3;have RL:=zH p2;clear p2 p3))
     go_wp2_with fail
     go_ret
     obtain⟨k1,k2,k3⟩:=Po.out
     obtain⟨A',a1,a2,a3,a4,a5⟩:=p1.eT _ _ HP.out
     rw[k2] at a3 a4 a5
     rw[hkk]
     exact⟨rfl,A',k1.trans a1,a3,q5.trans a4,a5,fun _=>rV.keep (A:=A2) (D:={zh with cut:=D.cut++[(G,D.seq)],cuts:=D.cuts+1}) (w:=w5) k3 a2 rfl (((Grow.drew A2.L w5).trans RL.out).trans a4)⟩
    |some kx=>
     rw[hkk] at HM
     go_wp2_with fail
     go_region_held3 (fun E=>zV E b0 0 ak∧zS E b1 0 A.H 0∧zV E b2 0 nx∧zT E b3 0 F∧zV E b4 0 G)
      (first|exact⟨g0,g1,g2,g3,g4⟩|assumption|go_keep|exact Gp.out _ _ (by assumption) (by assumption)|exact L8.out _ _ _ (by assumption) (by assumption))
      (first|(go_at_call 160;refine HM.out.mono ?_;rintro e w2 ⟨v,rfl,p1,p2,p3⟩;obtain⟨fv,fb,fc,e3⟩:=jm.form p3;subst e3;have z25:=p1.iC 25;obtain⟨vo,y25⟩:∃ vo,w2.cell? (J A2.H 25)=some vo:=⟨_,p1.df 25 rfl⟩;rw[Po.out.2.1] at z25 y25;have q5:=UL.out.trans p2;have HP:=zH p3;have RL:=zH p2;clear p2 p3))
     go_wp2_with fail
     go_ret
     obtain⟨k1,k2,k3⟩:=Po.out
     obtain⟨A',a1,a2,a3,a4,a5⟩:=p1.eT _ _ HP.out
     rw[k2] at a3 a4 a5
     rw[hkk]
     exact⟨rfl,A',k1.trans a1,a3,q5.trans a4,a5,fun _=>rV.keep (A:=A2) (D:={zh with cut:=D.cut++[(G,D.seq)],cuts:=D.cuts+1}) (w:=w5) k3 a2 rfl (((Grow.drew A2.L w5).trans RL.out).trans a4)⟩
   )
 . have f1:((ak:Int)=0)=False:=by have:=hah.lo;simp;rintro rfl;omega
   have f2:((ak:Int)==0)=false:=by have:=hah.lo;simp;rintro rfl;omega
   have f3:((ak:Int) !=0)=true:=by have:=hah.lo;simp;rintro rfl;omega
   have f4:(ak=0)=False:=by have:=hah.lo;simp;rintro rfl;omega
   have f5:ak≠0:=by rw[ne_eq,f4];exact not_false
   have HS:=zH (eQ ak 2 2 rfl hah.lo (by have:=hah.hi;omega) hah.u (by omega));have HST:Hid (∀ E,aC A D E->zk 47 #[R A.ba 0,I ((af ak 2:Nat):Int),zu nx] E (vC A E (D.put (af ak 2) nx) (.tuple #[]))):=fun E r=>fT r (af ak 2) nx (dO r hah.lo hah.hi (by omega)) aL
   have jK:D.aG (.cut F ak G nx)=({D.put (af ak 2) nx with cut:=D.cut++[(G,D.seq)],cuts:=D.cuts+1,sw:=iG F ak nx},true):=by simp only[St.aG];rw[aV f5]
   rw[jK];obtain⟨zh,Gm⟩:∃ zh,zh=D.put (af ak 2) nx:=⟨_,rfl⟩
   have Pm:Hid (zh.cut=D.cut∧zh.seq=D.seq∧zh.cuts=D.cuts):=by rw[Gm];exact⟨rfl,rfl,rfl⟩
   have UK:Hid (iW A zh.cut∧zh.cut.length<1000000):=by rw[Pm.out.1];exact⟨hck,hln⟩
   rw[<-Gm] at HST ⊢;clear hR aL B0 B1 B2 B3 B4 hsl jK hah Gm hck hln f5;generalize ((af ak 2:Nat):Int)=ix at*;go_enter Tryz.func222,Tryz.ntmps222;go_wp2_with fail
   go_region_held3 (fun E=>zV E b0 0 ak∧zS E b1 0 A.H 0∧zV E b2 0 nx∧zT E b3 0 F∧zV E b4 0 G∧zS E A.H 2 A.ba 0)
    (first|exact⟨c0,c1,c2,c3,c4,e2⟩|assumption|go_keep|exact HKK.out _ _ (by assumption) (by assumption))
    (first|(go_at_call 85;refine (HS.out _).mono ?_;rintro e w9 ⟨rfl,rfl⟩)|(go_at_call 47;refine (HST.out _ nT.out).mono ?_;rintro e Y ⟨rfl,q1,q2⟩;have q4:=HG.out.trans q2;clear q2))
   obtain⟨d0,d1,d2,d3,d4,d5⟩:=HKK.out _ _ q1 q4;have y27:Y.cell? (J A.H 27)=some (.slice Nu n0 c0'):=(q1.df 27 rfl).trans (congrArg some uB);have z27:=q1.iC 27;have y22:Y.cell? (J A.H 22)=zt (D.seq:Int):=(q1.df 22 rfl).trans (by rw[Pm.out.2.1]);have HQ:=zH (zA q1 q4);clear q1 q4;go_wp2_with fail;refine wp_region_held_drew (S:=fun E=>zS E b1 0 A.H 0∧zV E b4 0 G∧zT E A.H 22 (D.seq:Int)) (by kernel_rfl) ?_ (fun bD=>?_)
   . (try dsimp only);exact⟨d1,d4,y22⟩
   have Pn:=zH (zA HQ.out.1.drew (HQ.out.2.trans (Grow.drew A.L Y)));have LW:Y.drew.cell? (J A.H 27)=some (.slice Nu n0 c0'):=y27;have RD:Y.drew.frozen? (J A.H 27)=false:=z27;clear d0 d1 d2 d3 d4 d5 y22 y27 z27 HQ;generalize Y.drew=vd at*;have RF:∀ ob,(vd.alloc ob).cell? (J A.H 27)=some (.slice Nu n0 c0'):=fun ob=>bV LW
   refine pY (i:=0) rfl bD ?_
   (try simp only[lF,lG,lH,Act.put,lJ,lK,lL])
   refine pY (i:=1) rfl bD ?_
   (try simp only[lF,lG,lH,Act.put,lJ,lK,lL])
   refine pY (i:=2) rfl bD ?_
   (try simp only[lF,lG,lH,Act.put,lJ,lK,lL])
   refine pY (i:=3) rfl bD ?_
   (try simp only[lF,lG,lH,Act.put,lJ,lK,lL])
   refine pY (i:=4) rfl bD ?_
   (try simp only[lF,lG,lH,Act.put,lJ,lK,lL])
   refine pY (i:=6) rfl bD ?_
   (try simp only[lF,lG,lH,Act.put,lJ,lK,lL])
   refine pY (i:=7) rfl bD ?_
   (try simp only[lF,lG,lH,Act.put,lJ,lK,lL])
   refine pY (i:=8) rfl bD ?_
   (try simp only[lF,lG,lH,Act.put,lJ,lK,lL])
   refine pY (i:=9) rfl bD ?_
   (try simp only[lF,lG,lH,Act.put,lJ,lK,lL])
   refine pY (i:=10) rfl bD ?_
   (try simp only[lF,lG,lH,Act.put,lJ,lK,lL])
   refine pY (i:=11) rfl bD ?_
   (try simp only[lF,lG,lH,Act.put,lJ,lK,lL])
   refine wpAnyH_ready (rs:=[5,12]) (by kernel_rfl) (by simp) ?_;refine AllReadyH.cons (o:=_) rfl (fun K hK=>?_) (AllReadyH.cons (o:=_) rfl (fun K hK=>?_) AllReadyH.nil)
   focus (
    go_simp
    refine hK.out _ _ ?_ (fun bD=>?_)
    . (try dsimp only);exact bD
    clear hK K
    (try simp only[lF,lG,lH,Act.put,lJ,lK,lL])
    refine wpAnyH_ready (rs:=[12]) (by kernel_rfl) (by simp) ?_
    refine AllReadyH.cons (o:=_) rfl (fun K hK=>?_) AllReadyH.nil
    go_simp
    refine hK.out _ _ ?_ (fun bD=>?_)
    . (try dsimp only);exact⟨bV bD.1,bV bD.2.1,bV bD.2.2⟩
    clear hK K
    (try simp only[lF,lG,lH,Act.put,lJ,lK,lL])
   )
   rotate_left
   focus (
    go_simp
    refine hK.out _ _ ?_ (fun bD=>?_)
    . (try dsimp only);exact⟨bV bD.1,bV bD.2.1,bV bD.2.2⟩
    clear hK K
    (try simp only[lF,lG,lH,Act.put,lJ,lK,lL])
    refine wpAnyH_ready (rs:=[5]) (by kernel_rfl) (by simp) ?_
    refine AllReadyH.cons (o:=_) rfl (fun K hK=>?_) AllReadyH.nil
    go_simp
    refine hK.out _ _ ?_ (fun bD=>?_)
    . (try dsimp only);exact bD
    clear hK K
    (try simp only[lF,lG,lH,Act.put,lJ,lK,lL])
   )
   rotate_left
   all_goals (
    refine wpAnyH_ready (rs:=[13]) (by kernel_rfl) (by simp) ?_
    refine AllReadyH.cons (o:=_) rfl (fun K hK=>?_) AllReadyH.nil
    rw[aV (by rfl)]
    refine Iq vd (vd.alloc (.cells #[zu G,I (D.seq:Int)] 203)) (.tmp 38) (.tmp 45) rfl Pn.out.1 UK.out.1 UK.out.2 (.slice Nu n0 c0') uB.symm rfl (G,D.seq) rfl rfl ?_;intro mr nl gp wl hon;obtain⟨L2,hc2,g2',cs2,UE,cap2,WW,rl,gl,RG⟩:=hon;have RH:wl.cell? (J A.H 27)=some (.slice Nu n0 c0'):=(rl.df 27 rfl).trans (congrArg some uB);have RI:wl.frozen? (J A.H 27)=false:=rl.iC 27;have t1:=(Kr.out _ _ (Pn.out.2.trans gl)).2.1;have t4:=(Kr.out _ _ (Pn.out.2.trans gl)).2.2.2.2;have t22:wl.cell? (J A.H 22)=zt (D.seq:Int):=(rl.df 22 rfl).trans (by rw[Pm.out.2.1]);have Ko:=zH (zA rl (zA (Pn.out.2.trans gl) (by rw[Pm.out.1] at RG;exact RG)));clear WW gl RG;have RJ:Hid (zS (wl.setCell (J A.H 27) (.slice mr nl gp)) b1 0 A.H 0∧zV (wl.setCell (J A.H 27) (.slice mr nl gp)) b4 0 G∧zT (wl.setCell (J A.H 27) (.slice mr nl gp)) A.H 22 (D.seq:Int)):=⟨(Kr.out _ _ (Ko.out.2.1.trans (rl.qj (.slice mr nl gp) [] 0).2)).2.1,(Kr.out _ _ (Ko.out.2.1.trans (rl.qj (.slice mr nl gp) [] 0).2)).2.2.2.2,by rw[World.cell?_setCell_other _ _ _ _ (by simp)];exact t22⟩;clear rl
    refine hK.out _ _ ?_ (fun bD=>?_)
    . (try dsimp only);exact⟨t1,t4,t22⟩
    clear hK K
    (try simp only[lF,lG,lH,Act.put,lJ,lK,lL])
    refine pY (i:=14) rfl bD ?_
    (try simp only[lF,lG,lH,Act.put,lJ,lK,lL])
    refine pY (i:=15) rfl bD ?_
    (try simp only[lF,lG,lH,Act.put,lJ,lK,lL])
    refine pY (i:=16) rfl bD ?_
    (try simp only[lF,lG,lH,Act.put,lJ,lK,lL])
    refine wpAnyH_ready (rs:=[17]) (by kernel_rfl) (by simp) ?_
    refine AllReadyH.cons (o:=_) rfl (fun K hK=>?_) AllReadyH.nil
    go_simp
    refine hK.out _ _ ?_ (fun bD=>?_)
    . (try dsimp only);exact RJ.out
    clear hK K
    (try simp only[lF,lG,lH,Act.put,lJ,lK,lL])
    refine wpAnyH_done (by kernel_rfl) ?_ _
   )
   all_goals (
    clear t1 t4 t22 bD LW RD RF
    obtain⟨LX,LY,L6⟩:=Ko.out
    obtain⟨r5,g5⟩:=LX.qj (.slice mr nl gp) (D.cut++[(G,D.seq)]) (D.cuts+1)
    obtain⟨A2,hA2⟩:∃ A2:au,A2={A with L:=L2,hcut:=hc2,fP:=g2',dV:=cs2,iV:=.slice mr nl gp}:=⟨_,rfl⟩
    have Gn:A2.H=A.H:=by rw[hA2]
    have WX:A2.L=L2:=by rw[hA2]
    have hso:kK A A2:=by rw[hA2];exact⟨⟨_,_,_,_,_,_,_,_,rfl⟩,rfl⟩
    have hck:iW A2 (D.cut++[(G,D.seq)]):=by rw[hA2];exact L6
    replace r5:aC A2 {zh with cut:=D.cut++[(G,D.seq)],cuts:=D.cuts+1} (wl.setCell (J A.H 27) (.slice mr nl gp)):=by rw[hA2];exact r5
    generalize iZ:wl.setCell (J A.H 27) (.slice mr nl gp)=w5 at*
    have hg5:Grow A.L w A2.L w5:=by rw[WX];exact LY.trans g5
    have Po:=zH (zA hso (zA Gn hck))
    have hM:=pF r5.drew F ak nx Z
    rw[Gn] at hM
    have HM:=zH hM
    clear hM Z hA2 hso hck LX LY L6 g5 Ko RH RI
    have Gp:Hid (∀ bB E,aC A2 bB E->Grow A.L w A2.L E->zV E b0 0 ak∧zS E b1 0 A.H 0∧zV E b2 0 nx∧zT E b3 0 F∧zV E b4 0 G):=fun bB E r g=>Kr.out _ E g
    have L8:Hid (∀ bB E x,aC A2 bB E->Grow A.L w A2.L E->zV (E.setCell (J A.H 25) x) b0 0 ak∧zS (E.setCell (J A.H 25) x) b1 0 A.H 0∧zV (E.setCell (J A.H 25) x) b2 0 nx∧zT (E.setCell (J A.H 25) x) b3 0 F∧zV (E.setCell (J A.H 25) x) b4 0 G):=fun bB E x r g=>by
     have h:=(r.fK x .now).2
     rw[Gn] at h
     exact Kr.out _ _ (g.trans h)
    obtain⟨g0,g1,g2,g3,g4⟩:=Gp.out _ _ r5 hg5
    have UL:=zH (hg5.trans (Grow.drew A2.L w5))
    clear hg5 r5
    cases hkk:iG F ak nx with
    |none=>
     rw[hkk] at HM
     go_wp2_with fail
     go_region_held3 (fun E=>zV E b0 0 ak∧zS E b1 0 A.H 0∧zV E b2 0 nx∧zT E b3 0 F∧zV E b4 0 G)
      (first|exact⟨g0,g1,g2,g3,g4⟩|assumption|go_keep|exact Gp.out _ _ (by assumption) (by assumption)|exact L8.out _ _ _ (by assumption) (by assumption))
      (first|(go_at_call 160;refine HM.out.mono ?_;rintro e w2 ⟨v,rfl,p1,p2,p3⟩;have e3:v=.nilFunc:=p3;subst e3;have z25:=p1.iC 25;obtain⟨vo,y25⟩:∃ vo,w2.cell? (J A2.H 25)=some vo:=⟨_,p1.df 25 rfl⟩;rw[Po.out.2.1] at z25 y25;have q5:=UL.out.trans p2;have HP:=zH p3;have RL:=zH p2;clear p2 p3))
     go_wp2_with fail
     go_ret
     obtain⟨k1,k2,k3⟩:=Po.out
     obtain⟨A',a1,a2,a3,a4,a5⟩:=p1.eT _ _ HP.out
     rw[k2] at a3 a4 a5
     rw[hkk]
     exact⟨rfl,A',k1.trans a1,a3,q5.trans a4,a5,fun _=>rV.keep (A:=A2) (D:={zh with cut:=D.cut++[(G,D.seq)],cuts:=D.cuts+1}) (w:=w5) k3 a2 rfl (((Grow.drew A2.L w5).trans RL.out).trans a4)⟩
    |some kx=>
     rw[hkk] at HM
     go_wp2_with fail
     go_region_held3 (fun E=>zV E b0 0 ak∧zS E b1 0 A.H 0∧zV E b2 0 nx∧zT E b3 0 F∧zV E b4 0 G)
      (first|exact⟨g0,g1,g2,g3,g4⟩|assumption|go_keep|exact Gp.out _ _ (by assumption) (by assumption)|exact L8.out _ _ _ (by assumption) (by assumption))
      (first|(go_at_call 160;refine HM.out.mono ?_;rintro e w2 ⟨v,rfl,p1,p2,p3⟩;obtain⟨fv,fb,fc,e3⟩:=jm.form p3;subst e3;have z25:=p1.iC 25;obtain⟨vo,y25⟩:∃ vo,w2.cell? (J A2.H 25)=some vo:=⟨_,p1.df 25 rfl⟩;rw[Po.out.2.1] at z25 y25;have q5:=UL.out.trans p2;have HP:=zH p3;have RL:=zH p2;clear p2 p3))
     go_wp2_with fail
     go_ret
     obtain⟨k1,k2,k3⟩:=Po.out
     obtain⟨A',a1,a2,a3,a4,a5⟩:=p1.eT _ _ HP.out
     rw[k2] at a3 a4 a5
     rw[hkk]
     exact⟨rfl,A',k1.trans a1,a3,q5.trans a4,a5,fun _=>rV.keep (A:=A2) (D:={zh with cut:=D.cut++[(G,D.seq)],cuts:=D.cuts+1}) (w:=w5) k3 a2 rfl (((Grow.drew A2.L w5).trans RL.out).trans a4)⟩
   )
theorem xO (s:Nat):∃ k,nL s=some k:=by
 unfold nL mI
 split
 . exact⟨_,rfl⟩
 . exact⟨_,rfl⟩
theorem RN (hR:aC A D w) (s:Nat) (hs:s<8) (aL:D.count<4000000000000000000) (b0 b1:Nat) (B0:aN A.L w b0 (R A.H 0)) (B1:aN A.L w b1 (I s)):
 zk 136 #[R b0 0,R b1 0] w (tN A D w (D.aG (.live s))):=by
 have c0:=B0.cell;have c1:=B1.cell;have e2:=hR.z2;have n1:IntKind.i64.wrap (1+(s:Int))=1+(s:Int):=by rw[jG];omega
 have n2:IntKind.i64.wrap ((s:Int)+1)=((s+1:Nat):Int):=by rw[jG];omega
 have HL:Hid (∀ E,aC A D E->zk 42 #[R A.ba 0,I (1+(s:Int))] E (vC A E D.tick (zu (D.word (1+s):Int)))):=fun E r=>iK r (1+s) (1+(s:Int)) (by omega) (by rw[r.nw];omega) aL
 have nT:Hid (aC A D w.drew):=hR.drew;have HG:=zG A.L w;have HKK:Hid (∀ bB E,aC A bB E->Grow A.L w A.L E->zS E b0 0 A.H 0∧zT E b1 0 s∧zS E A.H 2 A.ba 0):=fun bB E r g=>⟨(B0.grow g).cell,(B1.grow g).cell,r.df 2 rfl⟩
 have vH:Hid (∀ bB E x,aC A bB E->Grow A.L w A.L E->zS (E.setCell (J A.H 25) x) b0 0 A.H 0∧zT (E.setCell (J A.H 25) x) b1 0 s∧zS (E.setCell (J A.H 25) x) A.H 2 A.ba 0):=fun bB E x r g=>let ⟨r',g'⟩:=r.fK x .now;⟨(B0.grow (g.trans g')).cell,(B1.grow (g.trans g')).cell,r'.df 2 rfl⟩
 have HM:Hid (∀ bB E,aC A bB E->zk 101 #[R A.H 0,I ((s+1:Nat):Int)] E (iL A bB E (nL (s+1)))):=fun bB E r=>zQ r (s+1) (by omega)
 obtain⟨kx,hkx⟩:=xO (s+1);have jK:D.aG (.live s)=({D.tick with low:=if 0<D.word (1+s) then min D.low (D.word (1+s)) else D.low,sw:=some kx},false):=by rw[<-hkx];rfl
 rw[jK];clear hR aL B0 B1 jK;generalize D.word (1+s)=at_ at*;generalize ((s+1:Nat):Int)=s1 at*
 by_cases h0:0<at_
 . have f1:((0:Int)<(at_:Int))=True:=by simp;omega
   have f2:decide ((0:Int)<(at_:Int))=true:=by simp;omega
   have f3:decide (0<at_)=true:=by simp;omega
   have f4:(0<at_)=True:=by simp;omega
   have hmin:((min D.low at_:Nat):Int)=(if at_<D.low then (at_:Int) else (D.low:Int)):=by split<;>omega
   have RO:Hid (∀ E,aC A D.tick E->aC A {D.tick with low:=min D.low at_} (E.setCell (J A.H 26) (zu ((min D.low at_:Nat):Int)))∧Grow A.L E A.L (E.setCell (J A.H 26) (zu ((min D.low at_:Nat):Int)))):=fun E r=>r.Kw _
   rw[hmin] at RO;generalize min D.low at_=mn at*;clear hmin;rw[aV h0];clear h0;go_enter Tryz.func136,Tryz.ntmps136;go_wp2_with fail
   go_region_held3 (fun E=>zS E b0 0 A.H 0∧zT E b1 0 s∧zS E A.H 2 A.ba 0)
    (first|exact⟨c0,c1,e2⟩|assumption|go_keep|exact HKK.out _ _ (by assumption) (by assumption))
    (first|(go_at_call 42;refine (HL.out _ nT.out).mono ?_;rintro e Y ⟨rfl,q1,q2⟩;have q4:=HG.out.trans q2))
   obtain⟨d0,d1,d2⟩:=HKK.out _ _ q1 q4;have WY:Y.cell? (J A.H 26)=zv (D.low:Int):=q1.df 26 rfl;have z26:=q1.iC 26;have HQ:=zH (zA q1 q4);clear q1 q2 q4;go_wp2_with fail;refine wp_region_still_tail 11 (by kernel_rfl) (by kernel_rfl) ?_;simp only[jS,jT,jU,jV]
   repeat still_step
   refine wpStill_nil ?_;change wpList _ _ _ _ _ Y.drew;have Zz:Y.drew.cell? (J A.H 26)=zv (D.low:Int):=WY;have ZA:Y.drew.frozen? (J A.H 26)=false:=z26;have FD:=zH (zA HQ.out.1.drew (HQ.out.2.trans (Grow.drew _ _)));clear WY z26 HQ d0 d1 d2;generalize Y.drew=wd at*;obtain⟨r3,g3⟩:=RO.out _ FD.out.1;have VE:=zH (zA r3 (FD.out.2.trans g3));clear r3 g3 FD RO;generalize (if at_<D.low then (at_:Int) else (D.low:Int))=mz at*;go_upto_region 4 with fail
   generalize wd.setCell (J A.H 26) (zu mz)=we at*;obtain⟨d0,d1,d2⟩:=HKK.out _ _ (VE.out.1) (VE.out.2);have uK:=zH (VE.out.1).drew;have Bq:=zH ((VE.out.2).trans (Grow.drew _ _));go_wp2_with fail
   go_region_held3 (fun E=>zS E b0 0 A.H 0∧zT E b1 0 s∧zS E A.H 2 A.ba 0)
    (first|exact⟨d0,d1,d2⟩|assumption|go_keep|exact HKK.out _ _ (by assumption) (by assumption)|exact vH.out _ _ _ (by assumption) (by assumption))
    (first|(go_at_call 101;refine (HM.out _ _ uK.out).mono ?_;rintro e w2 ⟨v,rfl,p1,p2,p3⟩;rw[hkx] at p3;obtain⟨fv,fb,fc,e3⟩:=jm.form p3;subst e3;have z25:=p1.iC 25;obtain⟨vo,y25⟩:∃ vo,w2.cell? (J A.H 25)=some vo:=⟨_,p1.df 25 rfl⟩;have q5:=Bq.out.trans p2;have HP:=zH p3;clear p2 p3))
   go_wp2_with fail;go_ret;obtain⟨A',a1,a2,a3,a4,a5⟩:=p1.eT _ _ HP.out;exact⟨rfl,A',a1,a3,q5.trans a4,a5,fun hc=>hc.keep a2 rfl (q5.trans a4)⟩
 . have f1:((0:Int)<(at_:Int))=False:=by simp;omega
   have f2:decide ((0:Int)<(at_:Int))=false:=by simp;omega
   have f3:decide (0<at_)=false:=by simp;omega
   have f4:(0<at_)=False:=by simp;omega
   rw[aR h0];clear h0;go_enter Tryz.func136,Tryz.ntmps136;go_wp2_with fail
   go_region_held3 (fun E=>zS E b0 0 A.H 0∧zT E b1 0 s∧zS E A.H 2 A.ba 0)
    (first|exact⟨c0,c1,e2⟩|assumption|go_keep|exact HKK.out _ _ (by assumption) (by assumption))
    (first|(go_at_call 42;refine (HL.out _ nT.out).mono ?_;rintro e Y ⟨rfl,q1,q2⟩;have q4:=HG.out.trans q2))
   obtain⟨d0,d1,d2⟩:=HKK.out _ _ (q1) (q4);have uK:=zH (q1).drew;have Bq:=zH ((q4).trans (Grow.drew _ _));go_wp2_with fail
   go_region_held3 (fun E=>zS E b0 0 A.H 0∧zT E b1 0 s∧zS E A.H 2 A.ba 0)
    (first|exact⟨d0,d1,d2⟩|assumption|go_keep|exact HKK.out _ _ (by assumption) (by assumption)|exact vH.out _ _ _ (by assumption) (by assumption))
    (first|(go_at_call 101;refine (HM.out _ _ uK.out).mono ?_;rintro e w2 ⟨v,rfl,p1,p2,p3⟩;rw[hkx] at p3;obtain⟨fv,fb,fc,e3⟩:=jm.form p3;subst e3;have z25:=p1.iC 25;obtain⟨vo,y25⟩:∃ vo,w2.cell? (J A.H 25)=some vo:=⟨_,p1.df 25 rfl⟩;have q5:=Bq.out.trans p2;have HP:=zH p3;clear p2 p3))
   go_wp2_with fail;go_ret;obtain⟨A',a1,a2,a3,a4,a5⟩:=p1.eT _ _ HP.out;exact⟨rfl,A',a1,a3,q5.trans a4,a5,fun hc=>hc.keep a2 rfl (q5.trans a4)⟩
theorem L9 (hR:aC A D w) (aL:D.count<4000000000000000000) (hx:D.word 0<18446744073709551616):
 zk 74 #[R A.H 0] w (tN A D w (D.aG .now)):=by
 have e2:=hR.z2;have HL:Hid (zk 42 #[R A.ba 0,I 0] w (vC A w D.tick (zu (D.word 0:Int)))):=iK hR 0 0 rfl (by rw[hR.nw];omega) aL;have HD:=zH (kg (D.word 0) hx);have HM:Hid (∀ bB E,aC A bB E->zk 101 #[R A.H 0,I 0] E (iL A bB E (nL 0))):=fun bB E r=>zQ r 0 (by omega)
 obtain⟨kx,hkx⟩:=xO 0;have jK:D.aG .now=({D.tick with low:=ai (D.word 0),sw:=some kx},false):=by rw[<-hkx];rfl
 rw[jK];clear hR aL hx jK;generalize ai (D.word 0)=tt at*;generalize (D.word 0:Int)=x0 at*;go_enter Tryz.func74,Tryz.ntmps74;go_wp2_with (first|(go_at_call 42;refine HL.out.mono ?_;rintro e Y ⟨rfl,q1,q2⟩;have WY:Y.cell? (J A.H 26)=zv (D.low:Int):=(q1.df 26 rfl);have z26:=q1.iC 26;have hls:=q1.Kw tt;have HQ:=zH (zA hls.1 (q2.trans hls.2));clear q1 q2 hls)|(go_at_call 43;refine (HD.out _).mono ?_;rintro e w9 ⟨rfl,rfl⟩)|(go_at_call 101;refine (HM.out _ _ HQ.out.1).mono ?_;rintro e w2 ⟨v,rfl,p1,p2,p3⟩;rw[hkx] at p3;obtain⟨fv,fb,fc,e3⟩:=jm.form p3;subst e3;have z25:=p1.iC 25;obtain⟨vo,y25⟩:∃ vo,w2.cell? (J A.H 25)=some vo:=⟨_,p1.df 25 rfl⟩;have q5:=HQ.out.2.trans p2;have HP:=zH p3;clear p2 p3));go_ret;obtain⟨A',a1,a2,a3,a4,a5⟩:=p1.eT _ _ HP.out;exact⟨rfl,A',a1,a3,q5.trans a4,a5,fun hc=>hc.keep a2 rfl (q5.trans a4)⟩
theorem Eb (hR:aC A D w) (F ak G b:Nat) (hv:VL D G) (hw:D.word (af G 1)<18446744073709551616) (hg:dD (D.word (af G 1)) D.low=true) (aL:D.count<4000000000000000000) (b0:Nat) (b1:Nat) (b2:Nat) (b3:Nat) (b4:Nat) (B0:aN A.L w b0 (zu b)) (B1:aN A.L w b1 (R A.H 0)) (B2:aN A.L w b2 (zu G)) (B3:aN A.L w b3 (I F)) (B4:aN A.L w b4 (zu ak)):
 zk 198 #[R b0 0,R b1 0,R b2 0,R b3 0,R b4 0] w (tN A D w (D.aG (.dD F ak G b))):=by
 have c0:=B0.cell;have c1:=B1.cell;have c2:=B2.cell;have c3:=B3.cell;have c4:=B4.cell;have e2:=hR.z2;have e3:w.cell? (J A.H 26)=zv (D.low:Int):=hR.df 26 rfl;have hsl:=hR.sl;have HS:=zH (eQ G 1 1 rfl hv.lo (by have:=hv.hi;omega) hv.u (by omega));have UM:=zH (Dy b (D.word (af G 1)) D.low hw);have HL:Hid (∀ E,aC A D E->zk 42 #[R A.ba 0,I (((af G 1:Nat):Int))] E (vC A E D.tick (zu (D.word (af G 1):Int)))):=fun E r=>iK r (af G 1) (((af G 1:Nat):Int)) rfl (dO r hv.lo hv.hi (by omega)) aL
 have nT:Hid (aC A D w.drew):=hR.drew;have HKK:Hid (∀ E,aC A D.tick E->Grow A.L w A.L E->zV E b0 0 b∧zS E b1 0 A.H 0∧zV E b2 0 G∧zT E b3 0 F∧zV E b4 0 ak∧zS E A.H 2 A.ba 0∧zV E A.H 26 (D.low:Int)):=fun E r g=>⟨(B0.grow g).cell,(B1.grow g).cell,(B2.grow g).cell,(B3.grow g).cell,(B4.grow g).cell,r.df 2 rfl,r.df 26 rfl⟩
 have vH:Hid (∀ E x,aC A D.tick E->Grow A.L w A.L E->zV (E.setCell (J A.H 25) x) b0 0 b∧zS (E.setCell (J A.H 25) x) b1 0 A.H 0∧zV (E.setCell (J A.H 25) x) b2 0 G∧zT (E.setCell (J A.H 25) x) b3 0 F∧zV (E.setCell (J A.H 25) x) b4 0 ak∧zS (E.setCell (J A.H 25) x) A.H 2 A.ba 0∧zV (E.setCell (J A.H 25) x) A.H 26 (D.low:Int)):=fun E x r g=>let ⟨r',g'⟩:=r.fK x .now;⟨(B0.grow (g.trans g')).cell,(B1.grow (g.trans g')).cell,(B2.grow (g.trans g')).cell,(B3.grow (g.trans g')).cell,(B4.grow (g.trans g')).cell,r'.df 2 rfl,r'.df 26 rfl⟩
 have HM:Hid (∀ E,aC A D.tick E->zk 196 #[R A.H 0,I F,zu ak,zu G] E (iL A D.tick E (some (.unlink F ak G)))):=fun E r=>vG r F ak G
 have HG:=zG A.L w;clear hR aL B0 B1 B2 B3 B4;have jK:D.aG (.dD F ak G b)=({D.tick with sw:=some (.unlink F ak G)},false):=by simp only[St.aG,St.tick,hg];rfl
 rw[jK];rw[hg] at UM;clear hv hw hg hsl;generalize (D.word (af G 1):Int)=hd at*;generalize ((af G 1:Nat):Int)=ix at*;have WZ:Hid (∀ E w9,aC A D.tick E->Below E.heap.size E w9->aC A D.tick w9∧Grow A.L E A.L w9):=fun E w9 r h=>⟨r.below h,Grow.below h⟩
 go_enter Tryz.func198,Tryz.ntmps198;go_wp2_with fail
 go_region_held3 (fun E=>zV E b0 0 b∧zS E b1 0 A.H 0∧zV E b2 0 G∧zT E b3 0 F∧zV E b4 0 ak∧zS E A.H 2 A.ba 0∧zV E A.H 26 (D.low:Int))
  (first|exact⟨c0,c1,c2,c3,c4,e2,e3⟩|assumption|go_keep|exact HKK.out _ (by assumption) (by assumption))
  (first|(go_at_call 85;refine (HS.out _).mono ?_;rintro e w9 ⟨rfl,rfl⟩)|(go_at_call 42;refine (HL.out _ nT.out).mono ?_;rintro e Y ⟨rfl,q1,q2⟩;have q4:=HG.out.trans q2;clear q2)|(go_at_call 199;refine (UM.out _).mono ?_;rintro e w5 ⟨rfl,hb⟩;obtain⟨q5,q6⟩:=WZ.out _ _ (by assumption) hb;have q7:=(‹Grow A.L w A.L _›).trans q6;clear q6 hb))
 obtain⟨d0,d1,d2,d3,d4,d9,UB⟩:=HKK.out _ q5 q7;have uK:=zH q5.drew;have Bq:=zH (q7.trans (Grow.drew _ _));go_wp2_with fail
 go_region_held3 (fun E=>zV E b0 0 b∧zS E b1 0 A.H 0∧zV E b2 0 G∧zT E b3 0 F∧zV E b4 0 ak∧zS E A.H 2 A.ba 0∧zV E A.H 26 (D.low:Int))
  (first|exact⟨d0,d1,d2,d3,d4,d9,UB⟩|assumption|go_keep|exact HKK.out _ (by assumption) (by assumption)|exact vH.out _ _ (by assumption) (by assumption))
  (first|(go_at_call 196;refine (HM.out _ uK.out).mono ?_;rintro e w2 ⟨v,rfl,p1,p2,p3⟩;obtain⟨fv,fb,fc,e3⟩:=jm.form p3;subst e3;obtain⟨vo,y25⟩:∃ vo,w2.cell? (J A.H 25)=some vo:=⟨_,p1.df 25 (v:=A.sv D.tick.sw) rfl⟩;have z25:=p1.iC 25;have q5:=Bq.out.trans p2;have HP:=zH p3;clear p2 p3))
 go_wp2_with fail;go_ret;obtain⟨A',a1,a2,a3,a4,a5⟩:=p1.eT _ _ HP.out;exact⟨rfl,A',a1,a3,q5.trans a4,a5,fun hc=>hc.keep a2 rfl (q5.trans a4)⟩
theorem Ec (hR:aC A D w) (F ak G b:Nat) (hv:VL D G) (hw:D.word (af G 1)<18446744073709551616) (hg:dD (D.word (af G 1)) D.low=false) (aL:D.count<4000000000000000000) (b0:Nat) (b1:Nat) (b2:Nat) (b3:Nat) (b4:Nat) (B0:aN A.L w b0 (zu b)) (B1:aN A.L w b1 (R A.H 0)) (B2:aN A.L w b2 (zu G)) (B3:aN A.L w b3 (I F)) (B4:aN A.L w b4 (zu ak)):
 zk 198 #[R b0 0,R b1 0,R b2 0,R b3 0,R b4 0] w (tN A D w (D.aG (.dD F ak G b))):=by
 have c0:=B0.cell;have c1:=B1.cell;have c2:=B2.cell;have c3:=B3.cell;have c4:=B4.cell;have e2:=hR.z2;have e3:w.cell? (J A.H 26)=zv (D.low:Int):=hR.df 26 rfl;have hsl:=hR.sl;have HS:=zH (eQ G 1 1 rfl hv.lo (by have:=hv.hi;omega) hv.u (by omega));have UM:=zH (Dy b (D.word (af G 1)) D.low hw);have HL:Hid (∀ E,aC A D E->zk 42 #[R A.ba 0,I (((af G 1:Nat):Int))] E (vC A E D.tick (zu (D.word (af G 1):Int)))):=fun E r=>iK r (af G 1) (((af G 1:Nat):Int)) rfl (dO r hv.lo hv.hi (by omega)) aL
 have nT:Hid (aC A D w.drew):=hR.drew;have HKK:Hid (∀ E,aC A D.tick E->Grow A.L w A.L E->zV E b0 0 b∧zS E b1 0 A.H 0∧zV E b2 0 G∧zT E b3 0 F∧zV E b4 0 ak∧zS E A.H 2 A.ba 0∧zV E A.H 26 (D.low:Int)):=fun E r g=>⟨(B0.grow g).cell,(B1.grow g).cell,(B2.grow g).cell,(B3.grow g).cell,(B4.grow g).cell,r.df 2 rfl,r.df 26 rfl⟩
 have vH:Hid (∀ E x,aC A D.tick E->Grow A.L w A.L E->zV (E.setCell (J A.H 25) x) b0 0 b∧zS (E.setCell (J A.H 25) x) b1 0 A.H 0∧zV (E.setCell (J A.H 25) x) b2 0 G∧zT (E.setCell (J A.H 25) x) b3 0 F∧zV (E.setCell (J A.H 25) x) b4 0 ak∧zS (E.setCell (J A.H 25) x) A.H 2 A.ba 0∧zV (E.setCell (J A.H 25) x) A.H 26 (D.low:Int)):=fun E x r g=>let ⟨r',g'⟩:=r.fK x .now;⟨(B0.grow (g.trans g')).cell,(B1.grow (g.trans g')).cell,(B2.grow (g.trans g')).cell,(B3.grow (g.trans g')).cell,(B4.grow (g.trans g')).cell,r'.df 2 rfl,r'.df 26 rfl⟩
 have HM:Hid (∀ E,aC A D.tick E->zk 197 #[R A.H 0,I F,zu G] E (iL A D.tick E (some (.on F G)))):=fun E r=>Ig r F G
 have HG:=zG A.L w;clear hR aL B0 B1 B2 B3 B4;have jK:D.aG (.dD F ak G b)=({D.tick with sw:=some (.on F G)},false):=by simp only[St.aG,St.tick,hg];rfl
 rw[jK];rw[hg] at UM;clear hv hw hg hsl;generalize (D.word (af G 1):Int)=hd at*;generalize ((af G 1:Nat):Int)=ix at*;have WZ:Hid (∀ E w9,aC A D.tick E->Below E.heap.size E w9->aC A D.tick w9∧Grow A.L E A.L w9):=fun E w9 r h=>⟨r.below h,Grow.below h⟩
 go_enter Tryz.func198,Tryz.ntmps198;go_wp2_with fail
 go_region_held3 (fun E=>zV E b0 0 b∧zS E b1 0 A.H 0∧zV E b2 0 G∧zT E b3 0 F∧zV E b4 0 ak∧zS E A.H 2 A.ba 0∧zV E A.H 26 (D.low:Int))
  (first|exact⟨c0,c1,c2,c3,c4,e2,e3⟩|assumption|go_keep|exact HKK.out _ (by assumption) (by assumption))
  (first|(go_at_call 85;refine (HS.out _).mono ?_;rintro e w9 ⟨rfl,rfl⟩)|(go_at_call 42;refine (HL.out _ nT.out).mono ?_;rintro e Y ⟨rfl,q1,q2⟩;have q4:=HG.out.trans q2;clear q2)|(go_at_call 199;refine (UM.out _).mono ?_;rintro e w5 ⟨rfl,hb⟩;obtain⟨q5,q6⟩:=WZ.out _ _ (by assumption) hb;have q7:=(‹Grow A.L w A.L _›).trans q6;clear q6 hb))
 obtain⟨d0,d1,d2,d3,d4,d9,UB⟩:=HKK.out _ q5 q7;have uK:=zH q5.drew;have Bq:=zH (q7.trans (Grow.drew _ _));go_wp2_with fail
 go_region_held3 (fun E=>zV E b0 0 b∧zS E b1 0 A.H 0∧zV E b2 0 G∧zT E b3 0 F∧zV E b4 0 ak∧zS E A.H 2 A.ba 0∧zV E A.H 26 (D.low:Int))
  (first|exact⟨d0,d1,d2,d3,d4,d9,UB⟩|assumption|go_keep|exact HKK.out _ (by assumption) (by assumption)|exact vH.out _ _ (by assumption) (by assumption))
  (first|(go_at_call 197;refine (HM.out _ uK.out).mono ?_;rintro e w2 ⟨v,rfl,p1,p2,p3⟩;obtain⟨fv,fb,fc,e3⟩:=jm.form p3;subst e3;obtain⟨vo,y25⟩:∃ vo,w2.cell? (J A.H 25)=some vo:=⟨_,p1.df 25 (v:=A.sv D.tick.sw) rfl⟩;have z25:=p1.iC 25;have q5:=Bq.out.trans p2;have HP:=zH p3;clear p2 p3))
 go_wp2_with fail;go_ret;obtain⟨A',a1,a2,a3,a4,a5⟩:=p1.eT _ _ HP.out;exact⟨rfl,A',a1,a3,q5.trans a4,a5,fun hc=>hc.keep a2 rfl (q5.trans a4)⟩
theorem Qq (x:Nat) (hx:x<18446744073709551616):(rd x).2<9223372036854775808∧IntKind.i64.wrap ((rd x).2:Int)=((rd x).2:Int):=by
 have h:(rd x).2<9223372036854775808:=by
  unfold rd
  repeat' split
  all_goals (first|(simp[tm] at *;omega)|(simp;done)|(simp[oo] at *;omega))
 exact⟨h,by rw[jG];omega⟩
theorem Gq (hR:aC A D w) (F ak G:Nat) (hv:VL D G) (hw:D.word (af G 0)<18446744073709551616) (h2:((rd (D.word (af G 0))).1=2)=True) (aL:D.count<4000000000000000000) (b0:Nat) (b1:Nat) (b2:Nat) (b3:Nat) (B0:aN A.L w b0 (R A.H 0)) (B1:aN A.L w b1 (zu G)) (B2:aN A.L w b2 (I F)) (B3:aN A.L w b3 (zu ak)):
 zk 179 #[R b0 0,R b1 0,R b2 0,R b3 0] w (tN A D w (D.aG (.visit F ak G))):=by
 have c0:=B0.cell;have c1:=B1.cell;have c2:=B2.cell;have c3:=B3.cell;have e2:=hR.z2;have hsl:=hR.sl;have HS:=zH (eQ G 0 0 rfl hv.lo (by have:=hv.hi;omega) hv.u (by omega));have FE:=zH (rQ (D.word (af G 0)) hw);have hrn:=Qq (D.word (af G 0)) hw;have HL:Hid (∀ E,aC A D E->zk 42 #[R A.ba 0,I (((af G 0:Nat):Int))] E (vC A E D.tick (zu (D.word (af G 0):Int)))):=fun E r=>iK r (af G 0) (((af G 0:Nat):Int)) rfl (dO r hv.lo hv.hi (by omega)) aL
 have nT:Hid (aC A D w.drew):=hR.drew;have HKK:Hid (∀ E,aC A D.tick E->Grow A.L w A.L E->zS E b0 0 A.H 0∧zV E b1 0 G∧zT E b2 0 F∧zV E b3 0 ak∧zS E A.H 2 A.ba 0):=fun E r g=>⟨(B0.grow g).cell,(B1.grow g).cell,(B2.grow g).cell,(B3.grow g).cell,r.df 2 rfl⟩
 have vH:Hid (∀ E x,aC A D.tick E->Grow A.L w A.L E->zS (E.setCell (J A.H 25) x) b0 0 A.H 0∧zV (E.setCell (J A.H 25) x) b1 0 G∧zT (E.setCell (J A.H 25) x) b2 0 F∧zV (E.setCell (J A.H 25) x) b3 0 ak∧zS (E.setCell (J A.H 25) x) A.H 2 A.ba 0):=fun E x r g=>let ⟨r',g'⟩:=r.fK x .now;⟨(B0.grow (g.trans g')).cell,(B1.grow (g.trans g')).cell,(B2.grow (g.trans g')).cell,(B3.grow (g.trans g')).cell,r'.df 2 rfl⟩
 have HM:Hid (∀ E,aC A D.tick E->zk 180 #[R A.H 0,I F,zu ak,zu G,I ((rd (D.word (af G 0))).2:Int)] E (iL A D.tick E (some (.maker F ak G (rd (D.word (af G 0))).2)))):=fun E r=>Fz r F ak G (rd (D.word (af G 0))).2
 have HG:=zG A.L w;clear hR aL B0 B1 B2 B3;have jK:D.aG (.visit F ak G)=({D.tick with sw:=some (.maker F ak G (rd (D.word (af G 0))).2)},false):=by simp only[St.aG,h2];rfl
 rw[jK];have f1:(((rd (D.word (af G 0))).1:Int)=2)=True:=by have:=h2;simp at this ⊢;omega
 have f2:(((rd (D.word (af G 0))).1:Int)==2)=true:=by have:=h2;simp at this ⊢;omega
 have n1:=hrn.2;clear hv hsl hw h2 hrn;generalize hkk:S.maker F ak G (rd (D.word (af G 0))).2=kk at*;clear hkk;generalize ((rd (D.word (af G 0))).1:Int)=zk at*;generalize ((rd (D.word (af G 0))).2:Int)=zn at*;generalize (D.word (af G 0):Int)=hd at*;generalize ((af G 0:Nat):Int)=ix at*;go_enter Tryz.func179,Tryz.ntmps179;go_wp2_with fail
 go_region_held3 (fun E=>zS E b0 0 A.H 0∧zV E b1 0 G∧zT E b2 0 F∧zV E b3 0 ak∧zS E A.H 2 A.ba 0)
  (first|exact⟨c0,c1,c2,c3,e2⟩|assumption|go_keep|exact HKK.out _ (by assumption) (by assumption))
  (first|(go_at_call 85;refine (HS.out _).mono ?_;rintro e w9 ⟨rfl,rfl⟩)|(go_at_call 42;refine (HL.out _ nT.out).mono ?_;rintro e Y ⟨rfl,q1,q2⟩;have q4:=HG.out.trans q2))
 have HQ:=zH (zA q1 q4);clear q1 q2 q4;go_wp2_with (go_at_call 108;refine (FE.out _).mono ?_;rintro e w3 ⟨rfl,hb⟩;have q5:=(HQ.out.1.below hb).alloc (Obj.cells #[I zk,zu zn] 217);have q6:=(HQ.out.2.trans (Grow.below hb)).trans (Grow.alloc _ _ (Obj.cells #[I zk,zu zn] 217));have fx:=eP (HQ.out.1.below hb).mem.fresh (Obj.cells #[I zk,zu zn] 217) rfl;have FC:=zH fx;clear fx hb);generalize hw4:w3.alloc (Obj.cells #[I zk,zu zn] 217)=w4 at*;obtain⟨d0,d1,d2,d3,d9⟩:=HKK.out _ q5 q6;have d8:w4.cell? (J w3.heap.size 1)=zv zn:=FC.out.cell 1 rfl;have uK:=zH q5.drew;have Bq:=zH (q6.trans (Grow.drew _ _));have W9:Hid (∀ E,aC A D.tick E->Grow A.L w A.L E->Grow A.L w4 A.L E->zS E b0 0 A.H 0∧zV E b1 0 G∧zT E b2 0 F∧zV E b3 0 ak∧zS E A.H 2 A.ba 0∧zV E w3.heap.size 1 zn):=fun E r g g4=>by
  obtain⟨x0,x1,x2,x3,x9⟩:=HKK.out _ r g;exact⟨x0,x1,x2,x3,x9,(FC.out.grow g4).cell 1 rfl⟩
 have zg:Hid (∀ E x,aC A D.tick E->Grow A.L w A.L E->Grow A.L w4 A.L E->zS (E.setCell (J A.H 25) x) b0 0 A.H 0∧zV (E.setCell (J A.H 25) x) b1 0 G∧zT (E.setCell (J A.H 25) x) b2 0 F∧zV (E.setCell (J A.H 25) x) b3 0 ak∧zS (E.setCell (J A.H 25) x) A.H 2 A.ba 0∧zV (E.setCell (J A.H 25) x) w3.heap.size 1 zn):=fun E x r g g4=>by
  obtain⟨x0,x1,x2,x3,x9⟩:=vH.out _ x r g;exact⟨x0,x1,x2,x3,x9,(FC.out.grow (g4.trans (r.fK x .now).2)).cell 1 rfl⟩
 go_region_held3 (fun E=>zS E b0 0 A.H 0∧zV E b1 0 G∧zT E b2 0 F∧zV E b3 0 ak∧zS E A.H 2 A.ba 0∧zV E w3.heap.size 1 zn)
  (first|exact⟨d0,d1,d2,d3,d9,d8⟩|assumption|go_keep|exact W9.out _ (by assumption) (by assumption) (by assumption)|exact zg.out _ _ (by assumption) (by assumption) (by assumption))
  (first|(go_at_call 180;refine (HM.out _ uK.out).mono ?_;rintro e w2 ⟨v,rfl,p1,p2,p3⟩;obtain⟨fv,fb,fc,e3⟩:=jm.form p3;subst e3;obtain⟨vo,y25⟩:∃ vo,w2.cell? (J A.H 25)=some vo:=⟨_,p1.df 25 (v:=A.sv D.tick.sw) rfl⟩;have z25:=p1.iC 25;have q7:=Bq.out.trans p2;have q8:=(Grow.drew A.L w4).trans p2;have HP:=zH p3;clear p2 p3))
 go_wp2_with fail;go_ret;obtain⟨A',a1,a2,a3,a4,a5⟩:=p1.eT _ _ HP.out;exact⟨rfl,A',a1,a3,q7.trans a4,a5,fun hc=>hc.keep a2 rfl (q7.trans a4)⟩
theorem Gr (hR:aC A D w) (F ak G:Nat) (hv:VL D G) (hw:D.word (af G 0)<18446744073709551616) (h2:((rd (D.word (af G 0))).1=2)=False) (aL:D.count<4000000000000000000) (b0:Nat) (b1:Nat) (b2:Nat) (b3:Nat) (B0:aN A.L w b0 (R A.H 0)) (B1:aN A.L w b1 (zu G)) (B2:aN A.L w b2 (I F)) (B3:aN A.L w b3 (zu ak)):
 zk 179 #[R b0 0,R b1 0,R b2 0,R b3 0] w (tN A D w (D.aG (.visit F ak G))):=by
 have c0:=B0.cell;have c1:=B1.cell;have c2:=B2.cell;have c3:=B3.cell;have e2:=hR.z2;have hsl:=hR.sl;have HS:=zH (eQ G 0 0 rfl hv.lo (by have:=hv.hi;omega) hv.u (by omega));have FE:=zH (rQ (D.word (af G 0)) hw);have hrn:=Qq (D.word (af G 0)) hw;have HL:Hid (∀ E,aC A D E->zk 42 #[R A.ba 0,I (((af G 0:Nat):Int))] E (vC A E D.tick (zu (D.word (af G 0):Int)))):=fun E r=>iK r (af G 0) (((af G 0:Nat):Int)) rfl (dO r hv.lo hv.hi (by omega)) aL
 have nT:Hid (aC A D w.drew):=hR.drew;have HKK:Hid (∀ E,aC A D.tick E->Grow A.L w A.L E->zS E b0 0 A.H 0∧zV E b1 0 G∧zT E b2 0 F∧zV E b3 0 ak∧zS E A.H 2 A.ba 0):=fun E r g=>⟨(B0.grow g).cell,(B1.grow g).cell,(B2.grow g).cell,(B3.grow g).cell,r.df 2 rfl⟩
 have vH:Hid (∀ E x,aC A D.tick E->Grow A.L w A.L E->zS (E.setCell (J A.H 25) x) b0 0 A.H 0∧zV (E.setCell (J A.H 25) x) b1 0 G∧zT (E.setCell (J A.H 25) x) b2 0 F∧zV (E.setCell (J A.H 25) x) b3 0 ak∧zS (E.setCell (J A.H 25) x) A.H 2 A.ba 0):=fun E x r g=>let ⟨r',g'⟩:=r.fK x .now;⟨(B0.grow (g.trans g')).cell,(B1.grow (g.trans g')).cell,(B2.grow (g.trans g')).cell,(B3.grow (g.trans g')).cell,r'.df 2 rfl⟩
 have HM:Hid (∀ E,aC A D.tick E->zk 181 #[R A.H 0,I F,zu ak,zu G,zu (D.word (af G 0):Int)] E (iL A D.tick E (some (.dD F ak G (D.word (af G 0)))))):=fun E r=>Bh r F ak G (D.word (af G 0))
 have HG:=zG A.L w;clear hR aL B0 B1 B2 B3;have jK:D.aG (.visit F ak G)=({D.tick with sw:=some (.dD F ak G (D.word (af G 0)))},false):=by simp only[St.aG,h2];rfl
 rw[jK];have f1:(((rd (D.word (af G 0))).1:Int)=2)=False:=by have:=h2;simp at this ⊢;omega
 have f2:(((rd (D.word (af G 0))).1:Int)==2)=false:=by have:=h2;simp at this ⊢;omega
 have n1:=hrn.2;clear hv hsl hw h2 hrn;generalize hkk:S.dD F ak G (D.word (af G 0))=kk at*;clear hkk;generalize ((rd (D.word (af G 0))).1:Int)=zk at*;generalize ((rd (D.word (af G 0))).2:Int)=zn at*;generalize (D.word (af G 0):Int)=hd at*;generalize ((af G 0:Nat):Int)=ix at*;go_enter Tryz.func179,Tryz.ntmps179;go_wp2_with fail
 go_region_held3 (fun E=>zS E b0 0 A.H 0∧zV E b1 0 G∧zT E b2 0 F∧zV E b3 0 ak∧zS E A.H 2 A.ba 0)
  (first|exact⟨c0,c1,c2,c3,e2⟩|assumption|go_keep|exact HKK.out _ (by assumption) (by assumption))
  (first|(go_at_call 85;refine (HS.out _).mono ?_;rintro e w9 ⟨rfl,rfl⟩)|(go_at_call 42;refine (HL.out _ nT.out).mono ?_;rintro e Y ⟨rfl,q1,q2⟩;have q4:=HG.out.trans q2))
 have HQ:=zH (zA q1 q4);clear q1 q2 q4;go_wp2_with (go_at_call 108;refine (FE.out _).mono ?_;rintro e w3 ⟨rfl,hb⟩;have q5:=(HQ.out.1.below hb).alloc (Obj.cells #[I zk,zu zn] 217);have q6:=(HQ.out.2.trans (Grow.below hb)).trans (Grow.alloc _ _ (Obj.cells #[I zk,zu zn] 217));have fx:=eP (HQ.out.1.below hb).mem.fresh (Obj.cells #[I zk,zu zn] 217) rfl;have FC:=zH fx;clear fx hb);generalize hw4:w3.alloc (Obj.cells #[I zk,zu zn] 217)=w4 at*;obtain⟨d0,d1,d2,d3,d9⟩:=HKK.out _ q5 q6;have d8:w4.cell? (J w3.heap.size 1)=zv zn:=FC.out.cell 1 rfl;have uK:=zH q5.drew;have Bq:=zH (q6.trans (Grow.drew _ _));have W9:Hid (∀ E,aC A D.tick E->Grow A.L w A.L E->Grow A.L w4 A.L E->zS E b0 0 A.H 0∧zV E b1 0 G∧zT E b2 0 F∧zV E b3 0 ak∧zS E A.H 2 A.ba 0∧zV E w3.heap.size 1 zn):=fun E r g g4=>by
  obtain⟨x0,x1,x2,x3,x9⟩:=HKK.out _ r g;exact⟨x0,x1,x2,x3,x9,(FC.out.grow g4).cell 1 rfl⟩
 have zg:Hid (∀ E x,aC A D.tick E->Grow A.L w A.L E->Grow A.L w4 A.L E->zS (E.setCell (J A.H 25) x) b0 0 A.H 0∧zV (E.setCell (J A.H 25) x) b1 0 G∧zT (E.setCell (J A.H 25) x) b2 0 F∧zV (E.setCell (J A.H 25) x) b3 0 ak∧zS (E.setCell (J A.H 25) x) A.H 2 A.ba 0∧zV (E.setCell (J A.H 25) x) w3.heap.size 1 zn):=fun E x r g g4=>by
  obtain⟨x0,x1,x2,x3,x9⟩:=vH.out _ x r g;exact⟨x0,x1,x2,x3,x9,(FC.out.grow (g4.trans (r.fK x .now).2)).cell 1 rfl⟩
 go_region_held3 (fun E=>zS E b0 0 A.H 0∧zV E b1 0 G∧zT E b2 0 F∧zV E b3 0 ak∧zS E A.H 2 A.ba 0∧zV E w3.heap.size 1 zn)
  (first|exact⟨d0,d1,d2,d3,d9,d8⟩|assumption|go_keep|exact W9.out _ (by assumption) (by assumption) (by assumption)|exact zg.out _ _ (by assumption) (by assumption) (by assumption))
  (first|(go_at_call 181;refine (HM.out _ uK.out).mono ?_;rintro e w2 ⟨v,rfl,p1,p2,p3⟩;obtain⟨fv,fb,fc,e3⟩:=jm.form p3;subst e3;obtain⟨vo,y25⟩:∃ vo,w2.cell? (J A.H 25)=some vo:=⟨_,p1.df 25 (v:=A.sv D.tick.sw) rfl⟩;have z25:=p1.iC 25;have q7:=Bq.out.trans p2;have q8:=(Grow.drew A.L w4).trans p2;have HP:=zH p3;clear p2 p3))
 go_wp2_with fail;go_ret;obtain⟨A',a1,a2,a3,a4,a5⟩:=p1.eT _ _ HP.out;exact⟨rfl,A',a1,a3,q7.trans a4,a5,fun hc=>hc.keep a2 rfl (q7.trans a4)⟩
end Go.Proofs.YthicolbbmjfkfaaGreat.Em
