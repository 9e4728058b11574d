import Derived.Test.YthicolbbmjfkfaaGreatQp13
import Derived.Test.YthicolbbmjfkfaaGreatQp12
namespace Go.Proofs.YthicolbbmjfkfaaGreat.Em
open Go.ChangeShapes Go.WideShapes Go.ChangeAt Go.RowKit En
set_option linter.unusedVariables false
set_option linter.unusedSimpArgs false
set_option maxRecDepth 100000
set_option maxHeartbeats 1600000
variable {A:Book} {σ:St} {w:World}
theorem cell_alloc_keep' {w:World} {o:Obj} {a:Addr} {v:Value} (h:w.cell? a=some v):(w.alloc o).cell? a=some v:=by
 rw[World.cell?_alloc_some _ _ _ (by rw[h];rfl)];exact h
theorem CutOk.form {A:Book} {l:List (Nat×Nat)} (h:CutOk A l):∃ av n c,A.vcut=.slice av n c:=by
 rcases h with ⟨-,h,-⟩|⟨-,k,cap,h,-⟩<;>exact⟨_,_,_,h⟩
theorem k_cut_miss (hR:Rep A σ w) (key ahead link nx:Nat) (hk:key≤63) (hah:ahead=0) (hok:σ.word (9+key)≠link) (hcnt:σ.count<4000000000000000000) (b0 b1 b2 b3 b4:Nat) (B0:Box A.L w b0 (zu (ahead:Int))) (B1:Box A.L w b1 (.pointer (some ⟨A.be,0,none⟩))) (B2:Box A.L w b2 (zu (nx:Int))) (B3:Box A.L w b3 (zi (key:Int))) (B4:Box A.L w b4 (zu (link:Int))):
 Calls Tryz.prog 222 #[.pointer (some ⟨b0,0,none⟩),.pointer (some ⟨b1,0,none⟩),.pointer (some ⟨b2,0,none⟩),.pointer (some ⟨b3,0,none⟩),.pointer (some ⟨b4,0,none⟩)] w (SRan A σ w (σ.sweepRun (.cut key ahead link nx))):=by
 have c0:=B0.cell;have c1:=B1.cell;have c2:=B2.cell;have c3:=B3.cell;have c4:=B4.cell;have e2:=hR.z2;have hsl:=hR.sl;have n1:IntKind.i64.wrap (9+(key:Int))=9+(key:Int):=by rw[IntKind.wrap_i64];omega
 have HRd:Hid (Rep A σ w.drew):=hR.drew;have HG:=zG A.L w;have HKK:Hid (∀ σ' w',Rep A σ' w'→Grow A.L w A.L w'→w'.cell? ⟨b0,0,none⟩=some (zu (ahead:Int))∧w'.cell? ⟨b1,0,none⟩=some (.pointer (some ⟨A.be,0,none⟩))∧w'.cell? ⟨b2,0,none⟩=some (zu (nx:Int))∧w'.cell? ⟨b3,0,none⟩=some (zi (key:Int))∧w'.cell? ⟨b4,0,none⟩=some (zu (link:Int))∧w'.cell? ⟨A.be,2,none⟩=some (.pointer (some ⟨A.ba,0,none⟩))):=fun σ' w' r g=>⟨(B0.grow g).cell,(B1.grow g).cell,(B2.grow g).cell,(B3.grow g).cell,(B4.grow g).cell,r.eng 2 rfl⟩
 have HKS:Hid (∀ σ' w' x,Rep A σ' w'→Grow A.L w A.L w'→(w'.setCell ⟨A.be,25,none⟩ x).cell? ⟨b0,0,none⟩=some (zu (ahead:Int))∧(w'.setCell ⟨A.be,25,none⟩ x).cell? ⟨b1,0,none⟩=some (.pointer (some ⟨A.be,0,none⟩))∧(w'.setCell ⟨A.be,25,none⟩ x).cell? ⟨b2,0,none⟩=some (zu (nx:Int))∧(w'.setCell ⟨A.be,25,none⟩ x).cell? ⟨b3,0,none⟩=some (zi (key:Int))∧(w'.setCell ⟨A.be,25,none⟩ x).cell? ⟨b4,0,none⟩=some (zu (link:Int))∧(w'.setCell ⟨A.be,25,none⟩ x).cell? ⟨A.be,2,none⟩=some (.pointer (some ⟨A.ba,0,none⟩))):=fun σ' w' x r g=>let ⟨r',g'⟩:=r.sweepSet x .now;⟨(B0.grow (g.trans g')).cell,(B1.grow (g.trans g')).cell,(B2.grow (g.trans g')).cell,(B3.grow (g.trans g')).cell,(B4.grow (g.trans g')).cell,r'.eng 2 rfl⟩
 have f1:((ahead:Int)=0)=True:=by simp;omega
 have f2:((ahead:Int)==0)=true:=by simp;omega
 have f3:((ahead:Int) !=0)=false:=by simp;omega
 have HCA:Hid (∀ w',Rep A σ w'→Calls Tryz.prog 45 #[.pointer (some ⟨A.ba,0,none⟩),zi (9+(key:Int)),zu (link:Int),zu (nx:Int)] w' (Did A w' σ.tick (.bool false))):=fun w' r=>by
  have hh:=cas_any r (9+key) link nx (by rw[r.nw];omega) hcnt;rw[show ((9+key:Nat):Int)=9+(key:Int) by omega,show σ.cas (9+key) link nx=σ.tick by unfold St.cas;rw[if_neg hok],show (σ.word (9+key)==link)=false by simpa using hok] at hh;exact hh
 have HM:Hid (∀ w',Rep A σ.tick w'→Calls Tryz.prog 135 #[.pointer (some ⟨A.be,0,none⟩),zi (key:Int)] w' (STells A σ.tick w' (headS key))):=fun w' r=>shead_any r key (by omega)
 have HRES:σ.sweepRun (.cut key ahead link nx)=({σ.tick with sw:=headS key},true):=by simp only[St.sweepRun];rw[if_neg (fun h=>h hah),if_neg hok]
 rw[HRES,show headS key=some (.head key) by unfold headS;rw[if_neg (by omega)]];rw[show headS key=some (.head key) by unfold headS;rw[if_neg (by omega)]] at HM;clear hR hcnt hok B0 B1 B2 B3 B4 hsl HRES hah hk;go_enter Tryz.func222,Tryz.ntmps222;go_wp2_with fail
 go_region_held3 (fun w'=>w'.cell? ⟨b0,0,none⟩=some (zu (ahead:Int))∧w'.cell? ⟨b1,0,none⟩=some (.pointer (some ⟨A.be,0,none⟩))∧w'.cell? ⟨b2,0,none⟩=some (zu (nx:Int))∧w'.cell? ⟨b3,0,none⟩=some (zi (key:Int))∧w'.cell? ⟨b4,0,none⟩=some (zu (link:Int))∧w'.cell? ⟨A.be,2,none⟩=some (.pointer (some ⟨A.ba,0,none⟩)))
  (first|exact⟨c0,c1,c2,c3,c4,e2⟩|assumption|go_keep|exact HKK.out _ _ (by assumption) (by assumption))
  (first|(go_at_call 45;refine (HCA.out _ HRd.out).mono ?_;rintro e w1 ⟨rfl,q1,q2⟩;have q4:=HG.out.trans q2;clear q2))
 obtain⟨d0,d1,d2,d3,d4,d5⟩:=HKK.out _ _ q1 q4;have HQ1:=zH q1.drew;have HG1:=zH (q4.trans (Grow.drew _ _));clear q1 q4;go_wp2_with fail
 go_region_held3 (fun w'=>w'.cell? ⟨b0,0,none⟩=some (zu (ahead:Int))∧w'.cell? ⟨b1,0,none⟩=some (.pointer (some ⟨A.be,0,none⟩))∧w'.cell? ⟨b2,0,none⟩=some (zu (nx:Int))∧w'.cell? ⟨b3,0,none⟩=some (zi (key:Int))∧w'.cell? ⟨b4,0,none⟩=some (zu (link:Int))∧w'.cell? ⟨A.be,2,none⟩=some (.pointer (some ⟨A.ba,0,none⟩)))
  (first|exact⟨d0,d1,d2,d3,d4,d5⟩|assumption|go_keep|exact HKK.out _ _ (by assumption) (by assumption)|exact HKS.out _ _ _ (by assumption) (by assumption))
  (first|(go_at_call 135;refine (HM.out _ HQ1.out).mono ?_;rintro e w2 ⟨v,rfl,p1,p2,p3⟩;obtain⟨fv,fb,fc,e3⟩:=SRep.form p3;subst e3;obtain⟨vo,y25⟩:∃ vo,w2.cell? ⟨A.be,25,none⟩=some vo:=⟨_,p1.eng 25 (v:=A.sv σ.tick.sw) rfl⟩;have z25:=p1.engF 25;have q5:=HG1.out.trans p2;have HP:=zH p3;clear p2 p3))
 go_wp2_with fail;go_ret;obtain⟨A',a1,a2,a3,a4,a5⟩:=p1.sweepPut _ _ HP.out;exact⟨rfl,A',a1,a3,q5.trans a4,a5,fun hc=>hc.keep a2 rfl (q5.trans a4)⟩
set_option maxHeartbeats 16000000 in
theorem k_cut_on (hR:Rep A σ w) (key ahead link nx:Nat) (hk:key≤63) (hah:ahead=0∧σ.word (9+key)=link∨VL σ ahead) (hck:CutOk A σ.cut) (hln:σ.cut.length<1000000) (hcnt:σ.count<4000000000000000000) (b0 b1 b2 b3 b4:Nat) (B0:Box A.L w b0 (zu (ahead:Int))) (B1:Box A.L w b1 (.pointer (some ⟨A.be,0,none⟩))) (B2:Box A.L w b2 (zu (nx:Int))) (B3:Box A.L w b3 (zi (key:Int))) (B4:Box A.L w b4 (zu (link:Int))):
 Calls Tryz.prog 222 #[.pointer (some ⟨b0,0,none⟩),.pointer (some ⟨b1,0,none⟩),.pointer (some ⟨b2,0,none⟩),.pointer (some ⟨b3,0,none⟩),.pointer (some ⟨b4,0,none⟩)] w (SRan A σ w (σ.sweepRun (.cut key ahead link nx))):=by
 have c0:=B0.cell;have c1:=B1.cell;have c2:=B2.cell;have c3:=B3.cell;have c4:=B4.cell;have e2:=hR.z2;have hsl:=hR.sl;have n1:IntKind.i64.wrap (9+(key:Int))=9+(key:Int):=by rw[IntKind.wrap_i64];omega
 have HRd:Hid (Rep A σ w.drew):=hR.drew;have HG:=zG A.L w;have HKK:Hid (∀ σ' w',Rep A σ' w'→Grow A.L w A.L w'→w'.cell? ⟨b0,0,none⟩=some (zu (ahead:Int))∧w'.cell? ⟨b1,0,none⟩=some (.pointer (some ⟨A.be,0,none⟩))∧w'.cell? ⟨b2,0,none⟩=some (zu (nx:Int))∧w'.cell? ⟨b3,0,none⟩=some (zi (key:Int))∧w'.cell? ⟨b4,0,none⟩=some (zu (link:Int))∧w'.cell? ⟨A.be,2,none⟩=some (.pointer (some ⟨A.ba,0,none⟩))):=fun σ' w' r g=>⟨(B0.grow g).cell,(B1.grow g).cell,(B2.grow g).cell,(B3.grow g).cell,(B4.grow g).cell,r.eng 2 rfl⟩
 have HK3:Hid (∀ L' w',Grow A.L w L' w'→w'.cell? ⟨b0,0,none⟩=some (zu (ahead:Int))∧w'.cell? ⟨b1,0,none⟩=some (.pointer (some ⟨A.be,0,none⟩))∧w'.cell? ⟨b2,0,none⟩=some (zu (nx:Int))∧w'.cell? ⟨b3,0,none⟩=some (zi (key:Int))∧w'.cell? ⟨b4,0,none⟩=some (zu (link:Int))):=fun L' w' g=>⟨(B0.grow g).cell,(B1.grow g).cell,(B2.grow g).cell,(B3.grow g).cell,(B4.grow g).cell⟩
 obtain⟨av0,n0,c0',hvc⟩:=hck.form
 rcases hah with ⟨hah,hok⟩|hah
 · have f1:((ahead:Int)=0)=True:=by simp;omega
   have f2:((ahead:Int)==0)=true:=by simp;omega
   have f3:((ahead:Int) !=0)=false:=by simp;omega
   have HCA:Hid (∀ w',Rep A σ w'→Calls Tryz.prog 45 #[.pointer (some ⟨A.ba,0,none⟩),zi (9+(key:Int)),zu (link:Int),zu (nx:Int)] w' (Did A w' (σ.put (9+key) nx) (.bool true))):=fun w' r=>by
    have hh:=cas_any r (9+key) link nx (by rw[r.nw];omega) hcnt;rw[show ((9+key:Nat):Int)=9+(key:Int) by omega,show σ.cas (9+key) link nx=σ.put (9+key) nx by unfold St.cas;rw[if_pos hok],show (σ.word (9+key)==link)=true by rw[hok];simp] at hh;exact hh
   have HRES:σ.sweepRun (.cut key ahead link nx)=({σ.put (9+key) nx with cut:=σ.cut++[(link,σ.seq)],cuts:=σ.cuts+1,sw:=visitS key ahead nx},true):=by simp only[St.sweepRun];rw[if_neg (fun h=>h hah),if_pos hok]
   rw[HRES];obtain⟨σp,hσp⟩:∃ σp,σp=σ.put (9+key) nx:=⟨_,rfl⟩
   have HSP:Hid (σp.cut=σ.cut∧σp.seq=σ.seq∧σp.cuts=σ.cuts):=by rw[hσp];exact⟨rfl,rfl,rfl⟩
   have HCK:Hid (CutOk A σp.cut∧σp.cut.length<1000000):=by rw[HSP.out.1];exact⟨hck,hln⟩
   rw[←hσp] at HCA ⊢;clear hR hcnt hok B0 B1 B2 B3 B4 hsl HRES hah hσp hck hln;go_enter Tryz.func222,Tryz.ntmps222;go_wp2_with fail
   go_region_held3 (fun w'=>w'.cell? ⟨b0,0,none⟩=some (zu (ahead:Int))∧w'.cell? ⟨b1,0,none⟩=some (.pointer (some ⟨A.be,0,none⟩))∧w'.cell? ⟨b2,0,none⟩=some (zu (nx:Int))∧w'.cell? ⟨b3,0,none⟩=some (zi (key:Int))∧w'.cell? ⟨b4,0,none⟩=some (zu (link:Int))∧w'.cell? ⟨A.be,2,none⟩=some (.pointer (some ⟨A.ba,0,none⟩)))
    (first|exact⟨c0,c1,c2,c3,c4,e2⟩|assumption|go_keep|exact HKK.out _ _ (by assumption) (by assumption))
    (first|(go_at_call 45;refine (HCA.out _ HRd.out).mono ?_;rintro e w1 ⟨rfl,q1,q2⟩;have q4:=HG.out.trans q2;clear q2))
   obtain⟨d0,d1,d2,d3,d4,d5⟩:=HKK.out _ _ q1 q4;have y27:w1.cell? ⟨A.be,27,none⟩=some (.slice av0 n0 c0'):=(q1.eng 27 rfl).trans (congrArg some hvc);have z27:=q1.engF 27;have y22:w1.cell? ⟨A.be,22,none⟩=some (zi (σ.seq:Int)):=(q1.eng 22 rfl).trans (by rw[HSP.out.2.1]);have HQ:=zH (zA q1 q4);clear q1 q4;go_wp2_with fail;refine wp_region_held_drew (S:=fun w'=>w'.cell? ⟨b1,0,none⟩=some (.pointer (some ⟨A.be,0,none⟩))∧w'.cell? ⟨b4,0,none⟩=some (zu (link:Int))∧w'.cell? ⟨A.be,22,none⟩=some (zi (σ.seq:Int))) (by kernel_rfl) ?_ (fun hHeld=>?_)
   · (try dsimp only);exact⟨d1,d4,y22⟩
   have HQD:=zH (zA HQ.out.1.drew (HQ.out.2.trans (Grow.drew A.L w1)));have y27d:w1.drew.cell? ⟨A.be,27,none⟩=some (.slice av0 n0 c0'):=y27;have z27d:w1.drew.frozen? ⟨A.be,27,none⟩=false:=z27;clear d0 d1 d2 d3 d4 d5 y22 y27 z27 HQ;generalize w1.drew=vd at*;have y27a:∀ ob,(vd.alloc ob).cell? ⟨A.be,27,none⟩=some (.slice av0 n0 c0'):=fun ob=>cell_alloc_keep' y27d
   refine zqt (i:=0) rfl hHeld ?_
   (try simp only[zqa,zqb,zqc,Act.put,zqd,zqe,zqf])
   refine zqt (i:=1) rfl hHeld ?_
   (try simp only[zqa,zqb,zqc,Act.put,zqd,zqe,zqf])
   refine zqt (i:=2) rfl hHeld ?_
   (try simp only[zqa,zqb,zqc,Act.put,zqd,zqe,zqf])
   refine zqt (i:=3) rfl hHeld ?_
   (try simp only[zqa,zqb,zqc,Act.put,zqd,zqe,zqf])
   refine zqt (i:=4) rfl hHeld ?_
   (try simp only[zqa,zqb,zqc,Act.put,zqd,zqe,zqf])
   refine zqt (i:=6) rfl hHeld ?_
   (try simp only[zqa,zqb,zqc,Act.put,zqd,zqe,zqf])
   refine zqt (i:=7) rfl hHeld ?_
   (try simp only[zqa,zqb,zqc,Act.put,zqd,zqe,zqf])
   refine zqt (i:=8) rfl hHeld ?_
   (try simp only[zqa,zqb,zqc,Act.put,zqd,zqe,zqf])
   refine zqt (i:=9) rfl hHeld ?_
   (try simp only[zqa,zqb,zqc,Act.put,zqd,zqe,zqf])
   refine zqt (i:=10) rfl hHeld ?_
   (try simp only[zqa,zqb,zqc,Act.put,zqd,zqe,zqf])
   refine zqt (i:=11) rfl hHeld ?_
   (try simp only[zqa,zqb,zqc,Act.put,zqd,zqe,zqf])
   refine wpAnyH_ready (rs:=[5,12]) (by kernel_rfl) (by simp) ?_;refine AllReadyH.cons (o:=_) rfl (fun K hK=>?_) (AllReadyH.cons (o:=_) rfl (fun K hK=>?_) AllReadyH.nil)
   focus (
    go_simp
    refine hK.out _ _ ?_ (fun hHeld=>?_)
    · (try dsimp only);exact hHeld
    clear hK K
    (try simp only[zqa,zqb,zqc,Act.put,zqd,zqe,zqf])
    refine wpAnyH_ready (rs:=[12]) (by kernel_rfl) (by simp) ?_
    refine AllReadyH.cons (o:=_) rfl (fun K hK=>?_) AllReadyH.nil
    go_simp
    refine hK.out _ _ ?_ (fun hHeld=>?_)
    · (try dsimp only);exact⟨cell_alloc_keep' hHeld.1,cell_alloc_keep' hHeld.2.1,cell_alloc_keep' hHeld.2.2⟩
    clear hK K
    (try simp only[zqa,zqb,zqc,Act.put,zqd,zqe,zqf])
   )
   rotate_left
   focus (
    go_simp
    refine hK.out _ _ ?_ (fun hHeld=>?_)
    · (try dsimp only);exact⟨cell_alloc_keep' hHeld.1,cell_alloc_keep' hHeld.2.1,cell_alloc_keep' hHeld.2.2⟩
    clear hK K
    (try simp only[zqa,zqb,zqc,Act.put,zqd,zqe,zqf])
    refine wpAnyH_ready (rs:=[5]) (by kernel_rfl) (by simp) ?_
    refine AllReadyH.cons (o:=_) rfl (fun K hK=>?_) AllReadyH.nil
    go_simp
    refine hK.out _ _ ?_ (fun hHeld=>?_)
    · (try dsimp only);exact hHeld
    clear hK K
    (try simp only[zqa,zqb,zqc,Act.put,zqd,zqe,zqf])
   )
   rotate_left
   all_goals (
    refine wpAnyH_ready (rs:=[13]) (by kernel_rfl) (by simp) ?_
    refine AllReadyH.cons (o:=_) rfl (fun K hK=>?_) AllReadyH.nil
    rw[if_pos (by rfl)]
    refine wp_cutN vd (vd.alloc (.cells #[zu (link:Int),zi (σ.seq:Int)] 203)) (.tmp 38) (.tmp 45) rfl HQD.out.1 HCK.out.1 HCK.out.2 (.slice av0 n0 c0') hvc.symm rfl (link,σ.seq) rfl rfl ?_;intro avl nl capl wl hon;obtain⟨L2,hc2,g2',cs2,av2,cap2,eon,rl,gl,ckl⟩:=hon;have y27l:wl.cell? ⟨A.be,27,none⟩=some (.slice av0 n0 c0'):=(rl.eng 27 rfl).trans (congrArg some hvc);have z27l:wl.frozen? ⟨A.be,27,none⟩=false:=rl.engF 27;have t1:=(HK3.out _ _ (HQD.out.2.trans gl)).2.1;have t4:=(HK3.out _ _ (HQD.out.2.trans gl)).2.2.2.2;have t22:wl.cell? ⟨A.be,22,none⟩=some (zi (σ.seq:Int)):=(rl.eng 22 rfl).trans (by rw[HSP.out.2.1]);have HQL:=zH (zA rl (zA (HQD.out.2.trans gl) (by rw[HSP.out.1] at ckl;exact ckl)));clear eon gl ckl;have HST5:Hid ((wl.setCell ⟨A.be,27,none⟩ (.slice avl nl capl)).cell? ⟨b1,0,none⟩=some (.pointer (some ⟨A.be,0,none⟩))∧(wl.setCell ⟨A.be,27,none⟩ (.slice avl nl capl)).cell? ⟨b4,0,none⟩=some (zu (link:Int))∧(wl.setCell ⟨A.be,27,none⟩ (.slice avl nl capl)).cell? ⟨A.be,22,none⟩=some (zi (σ.seq:Int))):=⟨(HK3.out _ _ (HQL.out.2.1.trans (rl.cutSet (.slice avl nl capl) [] 0).2)).2.1,(HK3.out _ _ (HQL.out.2.1.trans (rl.cutSet (.slice avl nl capl) [] 0).2)).2.2.2.2,by rw[World.cell?_setCell_other _ _ _ _ (by simp)];exact t22⟩;clear rl
    refine hK.out _ _ ?_ (fun hHeld=>?_)
    · (try dsimp only);exact⟨t1,t4,t22⟩
    clear hK K
    (try simp only[zqa,zqb,zqc,Act.put,zqd,zqe,zqf])
    refine zqt (i:=14) rfl hHeld ?_
    (try simp only[zqa,zqb,zqc,Act.put,zqd,zqe,zqf])
    refine zqt (i:=15) rfl hHeld ?_
    (try simp only[zqa,zqb,zqc,Act.put,zqd,zqe,zqf])
    refine zqt (i:=16) rfl hHeld ?_
    (try simp only[zqa,zqb,zqc,Act.put,zqd,zqe,zqf])
    refine wpAnyH_ready (rs:=[17]) (by kernel_rfl) (by simp) ?_
    refine AllReadyH.cons (o:=_) rfl (fun K hK=>?_) AllReadyH.nil
    go_simp
    refine hK.out _ _ ?_ (fun hHeld=>?_)
    · (try dsimp only);exact HST5.out
    clear hK K
    (try simp only[zqa,zqb,zqc,Act.put,zqd,zqe,zqf])
    refine wpAnyH_done (by kernel_rfl) ?_ _
   )
   all_goals (
    clear t1 t4 t22 hHeld y27d z27d y27a
    obtain⟨hon1,hon2,hon3⟩:=HQL.out
    obtain⟨r5,g5⟩:=hon1.cutSet (.slice avl nl capl) (σ.cut++[(link,σ.seq)]) (σ.cuts+1)
    obtain⟨A2,hA2⟩:∃ A2:Book,A2={A with L:=L2,hcut:=hc2,gcut:=g2',cutCs:=cs2,vcut:=.slice avl nl capl}:=⟨_,rfl⟩
    have e2be:A2.be=A.be:=by rw[hA2]
    have e2L:A2.L=L2:=by rw[hA2]
    have hso:SOnly A A2:=by rw[hA2];exact⟨⟨_,_,_,_,_,_,_,_,rfl⟩,rfl⟩
    have hck:CutOk A2 (σ.cut++[(link,σ.seq)]):=by rw[hA2];exact hon3
    replace r5:Rep A2 {σp with cut:=σ.cut++[(link,σ.seq)],cuts:=σ.cuts+1} (wl.setCell ⟨A.be,27,none⟩ (.slice avl nl capl)):=by rw[hA2];exact r5
    generalize hw5:wl.setCell ⟨A.be,27,none⟩ (.slice avl nl capl)=w5 at*
    have hg5:Grow A.L w A2.L w5:=by rw[e2L];exact hon2.trans g5
    have HF5:=zH (zA hso (zA e2be hck))
    have hM:=svisit_any r5.drew key ahead nx hk
    rw[e2be] at hM
    have HM:=zH hM
    clear hM hk hA2 hso hck hon1 hon2 hon3 g5 HQL y27l z27l
    have HKK2:Hid (∀ σ' w',Rep A2 σ' w'→Grow A.L w A2.L w'→w'.cell? ⟨b0,0,none⟩=some (zu (ahead:Int))∧w'.cell? ⟨b1,0,none⟩=some (.pointer (some ⟨A.be,0,none⟩))∧w'.cell? ⟨b2,0,none⟩=some (zu (nx:Int))∧w'.cell? ⟨b3,0,none⟩=some (zi (key:Int))∧w'.cell? ⟨b4,0,none⟩=some (zu (link:Int))):=fun σ' w' r g=>HK3.out _ w' g
    have HKS2:Hid (∀ σ' w' x,Rep A2 σ' w'→Grow A.L w A2.L w'→(w'.setCell ⟨A.be,25,none⟩ x).cell? ⟨b0,0,none⟩=some (zu (ahead:Int))∧(w'.setCell ⟨A.be,25,none⟩ x).cell? ⟨b1,0,none⟩=some (.pointer (some ⟨A.be,0,none⟩))∧(w'.setCell ⟨A.be,25,none⟩ x).cell? ⟨b2,0,none⟩=some (zu (nx:Int))∧(w'.setCell ⟨A.be,25,none⟩ x).cell? ⟨b3,0,none⟩=some (zi (key:Int))∧(w'.setCell ⟨A.be,25,none⟩ x).cell? ⟨b4,0,none⟩=some (zu (link:Int))):=fun σ' w' x r g=>by
     have h:=(r.sweepSet x .now).2
     rw[e2be] at h
     exact HK3.out _ _ (g.trans h)
    obtain⟨g0,g1,g2,g3,g4⟩:=HKK2.out _ _ r5 hg5
    have HG5:=zH (hg5.trans (Grow.drew A2.L w5))
    clear hg5 r5
    cases hkk:visitS key ahead nx with
    |none=>
     rw[hkk] at HM
     go_wp2_with fail
     go_region_held3 (fun w'=>w'.cell? ⟨b0,0,none⟩=some (zu (ahead:Int))∧w'.cell? ⟨b1,0,none⟩=some (.pointer (some ⟨A.be,0,none⟩))∧w'.cell? ⟨b2,0,none⟩=some (zu (nx:Int))∧w'.cell? ⟨b3,0,none⟩=some (zi (key:Int))∧w'.cell? ⟨b4,0,none⟩=some (zu (link:Int)))
      (first|exact⟨g0,g1,g2,g3,g4⟩|assumption|go_keep|exact HKK2.out _ _ (by assumption) (by assumption)|exact HKS2.out _ _ _ (by assumption) (by assumption))
      (first|(go_at_call 160;refine HM.out.mono ?_;rintro e w2 ⟨v,rfl,p1,p2,p3⟩;have e3:v=.nilFunc:=p3;subst e3;have z25:=p1.engF 25;obtain⟨vo,y25⟩:∃ vo,w2.cell? ⟨A2.be,25,none⟩=some vo:=⟨_,p1.eng 25 rfl⟩;rw[HF5.out.2.1] at z25 y25;have q5:=HG5.out.trans p2;have HP:=zH p3;have HPG:=zH p2;clear p2 p3))
     go_wp2_with fail
     go_ret
     obtain⟨k1,k2,k3⟩:=HF5.out
     obtain⟨A',a1,a2,a3,a4,a5⟩:=p1.sweepPut _ _ HP.out
     rw[k2] at a3 a4 a5
     rw[hkk]
     exact⟨rfl,A',k1.trans a1,a3,q5.trans a4,a5,fun _=>CRow.keep (A:=A2) (σ:={σp with cut:=σ.cut++[(link,σ.seq)],cuts:=σ.cuts+1}) (w:=w5) k3 a2 rfl (((Grow.drew A2.L w5).trans HPG.out).trans a4)⟩
    |some kx=>
     rw[hkk] at HM
     go_wp2_with fail
     go_region_held3 (fun w'=>w'.cell? ⟨b0,0,none⟩=some (zu (ahead:Int))∧w'.cell? ⟨b1,0,none⟩=some (.pointer (some ⟨A.be,0,none⟩))∧w'.cell? ⟨b2,0,none⟩=some (zu (nx:Int))∧w'.cell? ⟨b3,0,none⟩=some (zi (key:Int))∧w'.cell? ⟨b4,0,none⟩=some (zu (link:Int)))
      (first|exact⟨g0,g1,g2,g3,g4⟩|assumption|go_keep|exact HKK2.out _ _ (by assumption) (by assumption)|exact HKS2.out _ _ _ (by assumption) (by assumption))
      (first|(go_at_call 160;refine HM.out.mono ?_;rintro e w2 ⟨v,rfl,p1,p2,p3⟩;obtain⟨fv,fb,fc,e3⟩:=SRep.form p3;subst e3;have z25:=p1.engF 25;obtain⟨vo,y25⟩:∃ vo,w2.cell? ⟨A2.be,25,none⟩=some vo:=⟨_,p1.eng 25 rfl⟩;rw[HF5.out.2.1] at z25 y25;have q5:=HG5.out.trans p2;have HP:=zH p3;have HPG:=zH p2;clear p2 p3))
     go_wp2_with fail
     go_ret
     obtain⟨k1,k2,k3⟩:=HF5.out
     obtain⟨A',a1,a2,a3,a4,a5⟩:=p1.sweepPut _ _ HP.out
     rw[k2] at a3 a4 a5
     rw[hkk]
     exact⟨rfl,A',k1.trans a1,a3,q5.trans a4,a5,fun _=>CRow.keep (A:=A2) (σ:={σp with cut:=σ.cut++[(link,σ.seq)],cuts:=σ.cuts+1}) (w:=w5) k3 a2 rfl (((Grow.drew A2.L w5).trans HPG.out).trans a4)⟩
   )
 · have f1:((ahead:Int)=0)=False:=by have:=hah.lo;simp;rintro rfl;omega
   have f2:((ahead:Int)==0)=false:=by have:=hah.lo;simp;rintro rfl;omega
   have f3:((ahead:Int) !=0)=true:=by have:=hah.lo;simp;rintro rfl;omega
   have f4:(ahead=0)=False:=by have:=hah.lo;simp;rintro rfl;omega
   have f5:ahead≠0:=by rw[ne_eq,f4];exact not_false
   have HS:=zH (slot_at ahead 2 2 rfl hah.lo (by have:=hah.hi;omega) hah.u (by omega));have HST:Hid (∀ w',Rep A σ w'→Calls Tryz.prog 47 #[.pointer (some ⟨A.ba,0,none⟩),zi ((wslot ahead 2:Nat):Int),zu (nx:Int)] w' (Did A w' (σ.put (wslot ahead 2) nx) (.tuple #[]))):=fun w' r=>store_any r (wslot ahead 2) nx (wslot_lt r hah.lo hah.hi (by omega)) hcnt
   have HRES:σ.sweepRun (.cut key ahead link nx)=({σ.put (wslot ahead 2) nx with cut:=σ.cut++[(link,σ.seq)],cuts:=σ.cuts+1,sw:=visitS key ahead nx},true):=by simp only[St.sweepRun];rw[if_pos f5]
   rw[HRES];obtain⟨σp,hσp⟩:∃ σp,σp=σ.put (wslot ahead 2) nx:=⟨_,rfl⟩
   have HSP:Hid (σp.cut=σ.cut∧σp.seq=σ.seq∧σp.cuts=σ.cuts):=by rw[hσp];exact⟨rfl,rfl,rfl⟩
   have HCK:Hid (CutOk A σp.cut∧σp.cut.length<1000000):=by rw[HSP.out.1];exact⟨hck,hln⟩
   rw[←hσp] at HST ⊢;clear hR hcnt B0 B1 B2 B3 B4 hsl HRES hah hσp hck hln f5;generalize ((wslot ahead 2:Nat):Int)=ix at*;go_enter Tryz.func222,Tryz.ntmps222;go_wp2_with fail
   go_region_held3 (fun w'=>w'.cell? ⟨b0,0,none⟩=some (zu (ahead:Int))∧w'.cell? ⟨b1,0,none⟩=some (.pointer (some ⟨A.be,0,none⟩))∧w'.cell? ⟨b2,0,none⟩=some (zu (nx:Int))∧w'.cell? ⟨b3,0,none⟩=some (zi (key:Int))∧w'.cell? ⟨b4,0,none⟩=some (zu (link:Int))∧w'.cell? ⟨A.be,2,none⟩=some (.pointer (some ⟨A.ba,0,none⟩)))
    (first|exact⟨c0,c1,c2,c3,c4,e2⟩|assumption|go_keep|exact HKK.out _ _ (by assumption) (by assumption))
    (first|(go_at_call 85;refine (HS.out _).mono ?_;rintro e w9 ⟨rfl,rfl⟩)|(go_at_call 47;refine (HST.out _ HRd.out).mono ?_;rintro e w1 ⟨rfl,q1,q2⟩;have q4:=HG.out.trans q2;clear q2))
   obtain⟨d0,d1,d2,d3,d4,d5⟩:=HKK.out _ _ q1 q4;have y27:w1.cell? ⟨A.be,27,none⟩=some (.slice av0 n0 c0'):=(q1.eng 27 rfl).trans (congrArg some hvc);have z27:=q1.engF 27;have y22:w1.cell? ⟨A.be,22,none⟩=some (zi (σ.seq:Int)):=(q1.eng 22 rfl).trans (by rw[HSP.out.2.1]);have HQ:=zH (zA q1 q4);clear q1 q4;go_wp2_with fail;refine wp_region_held_drew (S:=fun w'=>w'.cell? ⟨b1,0,none⟩=some (.pointer (some ⟨A.be,0,none⟩))∧w'.cell? ⟨b4,0,none⟩=some (zu (link:Int))∧w'.cell? ⟨A.be,22,none⟩=some (zi (σ.seq:Int))) (by kernel_rfl) ?_ (fun hHeld=>?_)
   · (try dsimp only);exact⟨d1,d4,y22⟩
   have HQD:=zH (zA HQ.out.1.drew (HQ.out.2.trans (Grow.drew A.L w1)));have y27d:w1.drew.cell? ⟨A.be,27,none⟩=some (.slice av0 n0 c0'):=y27;have z27d:w1.drew.frozen? ⟨A.be,27,none⟩=false:=z27;clear d0 d1 d2 d3 d4 d5 y22 y27 z27 HQ;generalize w1.drew=vd at*;have y27a:∀ ob,(vd.alloc ob).cell? ⟨A.be,27,none⟩=some (.slice av0 n0 c0'):=fun ob=>cell_alloc_keep' y27d
   refine zqt (i:=0) rfl hHeld ?_
   (try simp only[zqa,zqb,zqc,Act.put,zqd,zqe,zqf])
   refine zqt (i:=1) rfl hHeld ?_
   (try simp only[zqa,zqb,zqc,Act.put,zqd,zqe,zqf])
   refine zqt (i:=2) rfl hHeld ?_
   (try simp only[zqa,zqb,zqc,Act.put,zqd,zqe,zqf])
   refine zqt (i:=3) rfl hHeld ?_
   (try simp only[zqa,zqb,zqc,Act.put,zqd,zqe,zqf])
   refine zqt (i:=4) rfl hHeld ?_
   (try simp only[zqa,zqb,zqc,Act.put,zqd,zqe,zqf])
   refine zqt (i:=6) rfl hHeld ?_
   (try simp only[zqa,zqb,zqc,Act.put,zqd,zqe,zqf])
   refine zqt (i:=7) rfl hHeld ?_
   (try simp only[zqa,zqb,zqc,Act.put,zqd,zqe,zqf])
   refine zqt (i:=8) rfl hHeld ?_
   (try simp only[zqa,zqb,zqc,Act.put,zqd,zqe,zqf])
   refine zqt (i:=9) rfl hHeld ?_
   (try simp only[zqa,zqb,zqc,Act.put,zqd,zqe,zqf])
   refine zqt (i:=10) rfl hHeld ?_
   (try simp only[zqa,zqb,zqc,Act.put,zqd,zqe,zqf])
   refine zqt (i:=11) rfl hHeld ?_
   (try simp only[zqa,zqb,zqc,Act.put,zqd,zqe,zqf])
   refine wpAnyH_ready (rs:=[5,12]) (by kernel_rfl) (by simp) ?_;refine AllReadyH.cons (o:=_) rfl (fun K hK=>?_) (AllReadyH.cons (o:=_) rfl (fun K hK=>?_) AllReadyH.nil)
   focus (
    go_simp
    refine hK.out _ _ ?_ (fun hHeld=>?_)
    · (try dsimp only);exact hHeld
    clear hK K
    (try simp only[zqa,zqb,zqc,Act.put,zqd,zqe,zqf])
    refine wpAnyH_ready (rs:=[12]) (by kernel_rfl) (by simp) ?_
    refine AllReadyH.cons (o:=_) rfl (fun K hK=>?_) AllReadyH.nil
    go_simp
    refine hK.out _ _ ?_ (fun hHeld=>?_)
    · (try dsimp only);exact⟨cell_alloc_keep' hHeld.1,cell_alloc_keep' hHeld.2.1,cell_alloc_keep' hHeld.2.2⟩
    clear hK K
    (try simp only[zqa,zqb,zqc,Act.put,zqd,zqe,zqf])
   )
   rotate_left
   focus (
    go_simp
    refine hK.out _ _ ?_ (fun hHeld=>?_)
    · (try dsimp only);exact⟨cell_alloc_keep' hHeld.1,cell_alloc_keep' hHeld.2.1,cell_alloc_keep' hHeld.2.2⟩
    clear hK K
    (try simp only[zqa,zqb,zqc,Act.put,zqd,zqe,zqf])
    refine wpAnyH_ready (rs:=[5]) (by kernel_rfl) (by simp) ?_
    refine AllReadyH.cons (o:=_) rfl (fun K hK=>?_) AllReadyH.nil
    go_simp
    refine hK.out _ _ ?_ (fun hHeld=>?_)
    · (try dsimp only);exact hHeld
    clear hK K
    (try simp only[zqa,zqb,zqc,Act.put,zqd,zqe,zqf])
   )
   rotate_left
   all_goals (
    refine wpAnyH_ready (rs:=[13]) (by kernel_rfl) (by simp) ?_
    refine AllReadyH.cons (o:=_) rfl (fun K hK=>?_) AllReadyH.nil
    rw[if_pos (by rfl)]
    refine wp_cutN vd (vd.alloc (.cells #[zu (link:Int),zi (σ.seq:Int)] 203)) (.tmp 38) (.tmp 45) rfl HQD.out.1 HCK.out.1 HCK.out.2 (.slice av0 n0 c0') hvc.symm rfl (link,σ.seq) rfl rfl ?_;intro avl nl capl wl hon;obtain⟨L2,hc2,g2',cs2,av2,cap2,eon,rl,gl,ckl⟩:=hon;have y27l:wl.cell? ⟨A.be,27,none⟩=some (.slice av0 n0 c0'):=(rl.eng 27 rfl).trans (congrArg some hvc);have z27l:wl.frozen? ⟨A.be,27,none⟩=false:=rl.engF 27;have t1:=(HK3.out _ _ (HQD.out.2.trans gl)).2.1;have t4:=(HK3.out _ _ (HQD.out.2.trans gl)).2.2.2.2;have t22:wl.cell? ⟨A.be,22,none⟩=some (zi (σ.seq:Int)):=(rl.eng 22 rfl).trans (by rw[HSP.out.2.1]);have HQL:=zH (zA rl (zA (HQD.out.2.trans gl) (by rw[HSP.out.1] at ckl;exact ckl)));clear eon gl ckl;have HST5:Hid ((wl.setCell ⟨A.be,27,none⟩ (.slice avl nl capl)).cell? ⟨b1,0,none⟩=some (.pointer (some ⟨A.be,0,none⟩))∧(wl.setCell ⟨A.be,27,none⟩ (.slice avl nl capl)).cell? ⟨b4,0,none⟩=some (zu (link:Int))∧(wl.setCell ⟨A.be,27,none⟩ (.slice avl nl capl)).cell? ⟨A.be,22,none⟩=some (zi (σ.seq:Int))):=⟨(HK3.out _ _ (HQL.out.2.1.trans (rl.cutSet (.slice avl nl capl) [] 0).2)).2.1,(HK3.out _ _ (HQL.out.2.1.trans (rl.cutSet (.slice avl nl capl) [] 0).2)).2.2.2.2,by rw[World.cell?_setCell_other _ _ _ _ (by simp)];exact t22⟩;clear rl
    refine hK.out _ _ ?_ (fun hHeld=>?_)
    · (try dsimp only);exact⟨t1,t4,t22⟩
    clear hK K
    (try simp only[zqa,zqb,zqc,Act.put,zqd,zqe,zqf])
    refine zqt (i:=14) rfl hHeld ?_
    (try simp only[zqa,zqb,zqc,Act.put,zqd,zqe,zqf])
    refine zqt (i:=15) rfl hHeld ?_
    (try simp only[zqa,zqb,zqc,Act.put,zqd,zqe,zqf])
    refine zqt (i:=16) rfl hHeld ?_
    (try simp only[zqa,zqb,zqc,Act.put,zqd,zqe,zqf])
    refine wpAnyH_ready (rs:=[17]) (by kernel_rfl) (by simp) ?_
    refine AllReadyH.cons (o:=_) rfl (fun K hK=>?_) AllReadyH.nil
    go_simp
    refine hK.out _ _ ?_ (fun hHeld=>?_)
    · (try dsimp only);exact HST5.out
    clear hK K
    (try simp only[zqa,zqb,zqc,Act.put,zqd,zqe,zqf])
    refine wpAnyH_done (by kernel_rfl) ?_ _
   )
   all_goals (
    clear t1 t4 t22 hHeld y27d z27d y27a
    obtain⟨hon1,hon2,hon3⟩:=HQL.out
    obtain⟨r5,g5⟩:=hon1.cutSet (.slice avl nl capl) (σ.cut++[(link,σ.seq)]) (σ.cuts+1)
    obtain⟨A2,hA2⟩:∃ A2:Book,A2={A with L:=L2,hcut:=hc2,gcut:=g2',cutCs:=cs2,vcut:=.slice avl nl capl}:=⟨_,rfl⟩
    have e2be:A2.be=A.be:=by rw[hA2]
    have e2L:A2.L=L2:=by rw[hA2]
    have hso:SOnly A A2:=by rw[hA2];exact⟨⟨_,_,_,_,_,_,_,_,rfl⟩,rfl⟩
    have hck:CutOk A2 (σ.cut++[(link,σ.seq)]):=by rw[hA2];exact hon3
    replace r5:Rep A2 {σp with cut:=σ.cut++[(link,σ.seq)],cuts:=σ.cuts+1} (wl.setCell ⟨A.be,27,none⟩ (.slice avl nl capl)):=by rw[hA2];exact r5
    generalize hw5:wl.setCell ⟨A.be,27,none⟩ (.slice avl nl capl)=w5 at*
    have hg5:Grow A.L w A2.L w5:=by rw[e2L];exact hon2.trans g5
    have HF5:=zH (zA hso (zA e2be hck))
    have hM:=svisit_any r5.drew key ahead nx hk
    rw[e2be] at hM
    have HM:=zH hM
    clear hM hk hA2 hso hck hon1 hon2 hon3 g5 HQL y27l z27l
    have HKK2:Hid (∀ σ' w',Rep A2 σ' w'→Grow A.L w A2.L w'→w'.cell? ⟨b0,0,none⟩=some (zu (ahead:Int))∧w'.cell? ⟨b1,0,none⟩=some (.pointer (some ⟨A.be,0,none⟩))∧w'.cell? ⟨b2,0,none⟩=some (zu (nx:Int))∧w'.cell? ⟨b3,0,none⟩=some (zi (key:Int))∧w'.cell? ⟨b4,0,none⟩=some (zu (link:Int))):=fun σ' w' r g=>HK3.out _ w' g
    have HKS2:Hid (∀ σ' w' x,Rep A2 σ' w'→Grow A.L w A2.L w'→(w'.setCell ⟨A.be,25,none⟩ x).cell? ⟨b0,0,none⟩=some (zu (ahead:Int))∧(w'.setCell ⟨A.be,25,none⟩ x).cell? ⟨b1,0,none⟩=some (.pointer (some ⟨A.be,0,none⟩))∧(w'.setCell ⟨A.be,25,none⟩ x).cell? ⟨b2,0,none⟩=some (zu (nx:Int))∧(w'.setCell ⟨A.be,25,none⟩ x).cell? ⟨b3,0,none⟩=some (zi (key:Int))∧(w'.setCell ⟨A.be,25,none⟩ x).cell? ⟨b4,0,none⟩=some (zu (link:Int))):=fun σ' w' x r g=>by
     have h:=(r.sweepSet x .now).2
     rw[e2be] at h
     exact HK3.out _ _ (g.trans h)
    obtain⟨g0,g1,g2,g3,g4⟩:=HKK2.out _ _ r5 hg5
    have HG5:=zH (hg5.trans (Grow.drew A2.L w5))
    clear hg5 r5
    cases hkk:visitS key ahead nx with
    |none=>
     rw[hkk] at HM
     go_wp2_with fail
     go_region_held3 (fun w'=>w'.cell? ⟨b0,0,none⟩=some (zu (ahead:Int))∧w'.cell? ⟨b1,0,none⟩=some (.pointer (some ⟨A.be,0,none⟩))∧w'.cell? ⟨b2,0,none⟩=some (zu (nx:Int))∧w'.cell? ⟨b3,0,none⟩=some (zi (key:Int))∧w'.cell? ⟨b4,0,none⟩=some (zu (link:Int)))
      (first|exact⟨g0,g1,g2,g3,g4⟩|assumption|go_keep|exact HKK2.out _ _ (by assumption) (by assumption)|exact HKS2.out _ _ _ (by assumption) (by assumption))
      (first|(go_at_call 160;refine HM.out.mono ?_;rintro e w2 ⟨v,rfl,p1,p2,p3⟩;have e3:v=.nilFunc:=p3;subst e3;have z25:=p1.engF 25;obtain⟨vo,y25⟩:∃ vo,w2.cell? ⟨A2.be,25,none⟩=some vo:=⟨_,p1.eng 25 rfl⟩;rw[HF5.out.2.1] at z25 y25;have q5:=HG5.out.trans p2;have HP:=zH p3;have HPG:=zH p2;clear p2 p3))
     go_wp2_with fail
     go_ret
     obtain⟨k1,k2,k3⟩:=HF5.out
     obtain⟨A',a1,a2,a3,a4,a5⟩:=p1.sweepPut _ _ HP.out
     rw[k2] at a3 a4 a5
     rw[hkk]
     exact⟨rfl,A',k1.trans a1,a3,q5.trans a4,a5,fun _=>CRow.keep (A:=A2) (σ:={σp with cut:=σ.cut++[(link,σ.seq)],cuts:=σ.cuts+1}) (w:=w5) k3 a2 rfl (((Grow.drew A2.L w5).trans HPG.out).trans a4)⟩
    |some kx=>
     rw[hkk] at HM
     go_wp2_with fail
     go_region_held3 (fun w'=>w'.cell? ⟨b0,0,none⟩=some (zu (ahead:Int))∧w'.cell? ⟨b1,0,none⟩=some (.pointer (some ⟨A.be,0,none⟩))∧w'.cell? ⟨b2,0,none⟩=some (zu (nx:Int))∧w'.cell? ⟨b3,0,none⟩=some (zi (key:Int))∧w'.cell? ⟨b4,0,none⟩=some (zu (link:Int)))
      (first|exact⟨g0,g1,g2,g3,g4⟩|assumption|go_keep|exact HKK2.out _ _ (by assumption) (by assumption)|exact HKS2.out _ _ _ (by assumption) (by assumption))
      (first|(go_at_call 160;refine HM.out.mono ?_;rintro e w2 ⟨v,rfl,p1,p2,p3⟩;obtain⟨fv,fb,fc,e3⟩:=SRep.form p3;subst e3;have z25:=p1.engF 25;obtain⟨vo,y25⟩:∃ vo,w2.cell? ⟨A2.be,25,none⟩=some vo:=⟨_,p1.eng 25 rfl⟩;rw[HF5.out.2.1] at z25 y25;have q5:=HG5.out.trans p2;have HP:=zH p3;have HPG:=zH p2;clear p2 p3))
     go_wp2_with fail
     go_ret
     obtain⟨k1,k2,k3⟩:=HF5.out
     obtain⟨A',a1,a2,a3,a4,a5⟩:=p1.sweepPut _ _ HP.out
     rw[k2] at a3 a4 a5
     rw[hkk]
     exact⟨rfl,A',k1.trans a1,a3,q5.trans a4,a5,fun _=>CRow.keep (A:=A2) (σ:={σp with cut:=σ.cut++[(link,σ.seq)],cuts:=σ.cuts+1}) (w:=w5) k3 a2 rfl (((Grow.drew A2.L w5).trans HPG.out).trans a4)⟩
   )
theorem liveS_some (s:Nat):∃ k,liveS s=some k:=by
 unfold liveS headS
 split
 · exact⟨_,rfl⟩
 · exact⟨_,rfl⟩
theorem k_live (hR:Rep A σ w) (s:Nat) (hs:s<8) (hcnt:σ.count<4000000000000000000) (b0 b1:Nat) (B0:Box A.L w b0 (.pointer (some ⟨A.be,0,none⟩))) (B1:Box A.L w b1 (zi (s:Int))):
 Calls Tryz.prog 136 #[.pointer (some ⟨b0,0,none⟩),.pointer (some ⟨b1,0,none⟩)] w (SRan A σ w (σ.sweepRun (.live s))):=by
 have c0:=B0.cell;have c1:=B1.cell;have e2:=hR.z2;have n1:IntKind.i64.wrap (1+(s:Int))=1+(s:Int):=by rw[IntKind.wrap_i64];omega
 have n2:IntKind.i64.wrap ((s:Int)+1)=((s+1:Nat):Int):=by rw[IntKind.wrap_i64];omega
 have HL:Hid (∀ w',Rep A σ w'→Calls Tryz.prog 42 #[.pointer (some ⟨A.ba,0,none⟩),zi (1+(s:Int))] w' (Did A w' σ.tick (zu (σ.word (1+s):Int)))):=fun w' r=>load_i r (1+s) (1+(s:Int)) (by omega) (by rw[r.nw];omega) hcnt
 have HRd:Hid (Rep A σ w.drew):=hR.drew;have HG:=zG A.L w;have HKK:Hid (∀ σ' w',Rep A σ' w'→Grow A.L w A.L w'→w'.cell? ⟨b0,0,none⟩=some (.pointer (some ⟨A.be,0,none⟩))∧w'.cell? ⟨b1,0,none⟩=some (zi (s:Int))∧w'.cell? ⟨A.be,2,none⟩=some (.pointer (some ⟨A.ba,0,none⟩))):=fun σ' w' r g=>⟨(B0.grow g).cell,(B1.grow g).cell,r.eng 2 rfl⟩
 have HKS:Hid (∀ σ' w' x,Rep A σ' w'→Grow A.L w A.L w'→(w'.setCell ⟨A.be,25,none⟩ x).cell? ⟨b0,0,none⟩=some (.pointer (some ⟨A.be,0,none⟩))∧(w'.setCell ⟨A.be,25,none⟩ x).cell? ⟨b1,0,none⟩=some (zi (s:Int))∧(w'.setCell ⟨A.be,25,none⟩ x).cell? ⟨A.be,2,none⟩=some (.pointer (some ⟨A.ba,0,none⟩))):=fun σ' w' x r g=>let ⟨r',g'⟩:=r.sweepSet x .now;⟨(B0.grow (g.trans g')).cell,(B1.grow (g.trans g')).cell,r'.eng 2 rfl⟩
 have HM:Hid (∀ σ' w',Rep A σ' w'→Calls Tryz.prog 101 #[.pointer (some ⟨A.be,0,none⟩),zi ((s+1:Nat):Int)] w' (STells A σ' w' (liveS (s+1)))):=fun σ' w' r=>slive_any r (s+1) (by omega)
 obtain⟨kx,hkx⟩:=liveS_some (s+1);have HRES:σ.sweepRun (.live s)=({σ.tick with low:=if 0<σ.word (1+s) then min σ.low (σ.word (1+s)) else σ.low,sw:=some kx},false):=by rw[←hkx];rfl
 rw[HRES];clear hR hcnt B0 B1 HRES;generalize σ.word (1+s)=at_ at*;generalize ((s+1:Nat):Int)=s1 at*
 by_cases h0:0<at_
 · have f1:((0:Int)<(at_:Int))=True:=by simp;omega
   have f2:decide ((0:Int)<(at_:Int))=true:=by simp;omega
   have f3:decide (0<at_)=true:=by simp;omega
   have f4:(0<at_)=True:=by simp;omega
   have hmin:((min σ.low at_:Nat):Int)=(if at_<σ.low then (at_:Int) else (σ.low:Int)):=by split<;>omega
   have HLOW:Hid (∀ w',Rep A σ.tick w'→Rep A {σ.tick with low:=min σ.low at_} (w'.setCell ⟨A.be,26,none⟩ (zu ((min σ.low at_:Nat):Int)))∧Grow A.L w' A.L (w'.setCell ⟨A.be,26,none⟩ (zu ((min σ.low at_:Nat):Int)))):=fun w' r=>r.lowSet _
   rw[hmin] at HLOW;generalize min σ.low at_=mn at*;clear hmin;rw[if_pos h0];clear h0;go_enter Tryz.func136,Tryz.ntmps136;go_wp2_with fail
   go_region_held3 (fun w'=>w'.cell? ⟨b0,0,none⟩=some (.pointer (some ⟨A.be,0,none⟩))∧w'.cell? ⟨b1,0,none⟩=some (zi (s:Int))∧w'.cell? ⟨A.be,2,none⟩=some (.pointer (some ⟨A.ba,0,none⟩)))
    (first|exact⟨c0,c1,e2⟩|assumption|go_keep|exact HKK.out _ _ (by assumption) (by assumption))
    (first|(go_at_call 42;refine (HL.out _ HRd.out).mono ?_;rintro e w1 ⟨rfl,q1,q2⟩;have q4:=HG.out.trans q2))
   obtain⟨d0,d1,d2⟩:=HKK.out _ _ q1 q4;have y26:w1.cell? ⟨A.be,26,none⟩=some (zu (σ.low:Int)):=q1.eng 26 rfl;have z26:=q1.engF 26;have HQ:=zH (zA q1 q4);clear q1 q2 q4;go_wp2_with fail;refine wp_region_still_tail 11 (by kernel_rfl) (by kernel_rfl) ?_;simp only[zta,ztb,ztc,ztd]
   repeat still_step
   refine wpStill_nil ?_;change wpList _ _ _ _ _ w1.drew;have y26d:w1.drew.cell? ⟨A.be,26,none⟩=some (zu (σ.low:Int)):=y26;have z26d:w1.drew.frozen? ⟨A.be,26,none⟩=false:=z26;have HQ2:=zH (zA HQ.out.1.drew (HQ.out.2.trans (Grow.drew _ _)));clear y26 z26 HQ d0 d1 d2;generalize w1.drew=wd at*;obtain⟨r3,g3⟩:=HLOW.out _ HQ2.out.1;have HQ3:=zH (zA r3 (HQ2.out.2.trans g3));clear r3 g3 HQ2 HLOW;generalize (if at_<σ.low then (at_:Int) else (σ.low:Int))=mz at*;go_upto_region 4 with fail
   generalize wd.setCell ⟨A.be,26,none⟩ (zu mz)=we at*;obtain⟨d0,d1,d2⟩:=HKK.out _ _ (HQ3.out.1) (HQ3.out.2);have HQ1:=zH (HQ3.out.1).drew;have HG1:=zH ((HQ3.out.2).trans (Grow.drew _ _));go_wp2_with fail
   go_region_held3 (fun w'=>w'.cell? ⟨b0,0,none⟩=some (.pointer (some ⟨A.be,0,none⟩))∧w'.cell? ⟨b1,0,none⟩=some (zi (s:Int))∧w'.cell? ⟨A.be,2,none⟩=some (.pointer (some ⟨A.ba,0,none⟩)))
    (first|exact⟨d0,d1,d2⟩|assumption|go_keep|exact HKK.out _ _ (by assumption) (by assumption)|exact HKS.out _ _ _ (by assumption) (by assumption))
    (first|(go_at_call 101;refine (HM.out _ _ HQ1.out).mono ?_;rintro e w2 ⟨v,rfl,p1,p2,p3⟩;rw[hkx] at p3;obtain⟨fv,fb,fc,e3⟩:=SRep.form p3;subst e3;have z25:=p1.engF 25;obtain⟨vo,y25⟩:∃ vo,w2.cell? ⟨A.be,25,none⟩=some vo:=⟨_,p1.eng 25 rfl⟩;have q5:=HG1.out.trans p2;have HP:=zH p3;clear p2 p3))
   go_wp2_with fail;go_ret;obtain⟨A',a1,a2,a3,a4,a5⟩:=p1.sweepPut _ _ HP.out;exact⟨rfl,A',a1,a3,q5.trans a4,a5,fun hc=>hc.keep a2 rfl (q5.trans a4)⟩
 · have f1:((0:Int)<(at_:Int))=False:=by simp;omega
   have f2:decide ((0:Int)<(at_:Int))=false:=by simp;omega
   have f3:decide (0<at_)=false:=by simp;omega
   have f4:(0<at_)=False:=by simp;omega
   rw[if_neg h0];clear h0;go_enter Tryz.func136,Tryz.ntmps136;go_wp2_with fail
   go_region_held3 (fun w'=>w'.cell? ⟨b0,0,none⟩=some (.pointer (some ⟨A.be,0,none⟩))∧w'.cell? ⟨b1,0,none⟩=some (zi (s:Int))∧w'.cell? ⟨A.be,2,none⟩=some (.pointer (some ⟨A.ba,0,none⟩)))
    (first|exact⟨c0,c1,e2⟩|assumption|go_keep|exact HKK.out _ _ (by assumption) (by assumption))
    (first|(go_at_call 42;refine (HL.out _ HRd.out).mono ?_;rintro e w1 ⟨rfl,q1,q2⟩;have q4:=HG.out.trans q2))
   obtain⟨d0,d1,d2⟩:=HKK.out _ _ (q1) (q4);have HQ1:=zH (q1).drew;have HG1:=zH ((q4).trans (Grow.drew _ _));go_wp2_with fail
   go_region_held3 (fun w'=>w'.cell? ⟨b0,0,none⟩=some (.pointer (some ⟨A.be,0,none⟩))∧w'.cell? ⟨b1,0,none⟩=some (zi (s:Int))∧w'.cell? ⟨A.be,2,none⟩=some (.pointer (some ⟨A.ba,0,none⟩)))
    (first|exact⟨d0,d1,d2⟩|assumption|go_keep|exact HKK.out _ _ (by assumption) (by assumption)|exact HKS.out _ _ _ (by assumption) (by assumption))
    (first|(go_at_call 101;refine (HM.out _ _ HQ1.out).mono ?_;rintro e w2 ⟨v,rfl,p1,p2,p3⟩;rw[hkx] at p3;obtain⟨fv,fb,fc,e3⟩:=SRep.form p3;subst e3;have z25:=p1.engF 25;obtain⟨vo,y25⟩:∃ vo,w2.cell? ⟨A.be,25,none⟩=some vo:=⟨_,p1.eng 25 rfl⟩;have q5:=HG1.out.trans p2;have HP:=zH p3;clear p2 p3))
   go_wp2_with fail;go_ret;obtain⟨A',a1,a2,a3,a4,a5⟩:=p1.sweepPut _ _ HP.out;exact⟨rfl,A',a1,a3,q5.trans a4,a5,fun hc=>hc.keep a2 rfl (q5.trans a4)⟩
theorem sw_now (hR:Rep A σ w) (hcnt:σ.count<4000000000000000000) (hx:σ.word 0<18446744073709551616):
 Calls Tryz.prog 74 #[.pointer (some ⟨A.be,0,none⟩)] w (SRan A σ w (σ.sweepRun .now)):=by
 have e2:=hR.z2;have HL:Hid (Calls Tryz.prog 42 #[.pointer (some ⟨A.ba,0,none⟩),zi 0] w (Did A w σ.tick (zu (σ.word 0:Int)))):=load_i hR 0 0 rfl (by rw[hR.nw];omega) hcnt;have HD:=zH (drawn_any (σ.word 0) hx);have HM:Hid (∀ σ' w',Rep A σ' w'→Calls Tryz.prog 101 #[.pointer (some ⟨A.be,0,none⟩),zi 0] w' (STells A σ' w' (liveS 0))):=fun σ' w' r=>slive_any r 0 (by omega)
 obtain⟨kx,hkx⟩:=liveS_some 0;have HRES:σ.sweepRun .now=({σ.tick with low:=timeOf (σ.word 0),sw:=some kx},false):=by rw[←hkx];rfl
 rw[HRES];clear hR hcnt hx HRES;generalize timeOf (σ.word 0)=tt at*;generalize (σ.word 0:Int)=x0 at*;go_enter Tryz.func74,Tryz.ntmps74;go_wp2_with (first|(go_at_call 42;refine HL.out.mono ?_;rintro e w1 ⟨rfl,q1,q2⟩;have y26:w1.cell? ⟨A.be,26,none⟩=some (zu (σ.low:Int)):=(q1.eng 26 rfl);have z26:=q1.engF 26;have hls:=q1.lowSet tt;have HQ:=zH (zA hls.1 (q2.trans hls.2));clear q1 q2 hls)|(go_at_call 43;refine (HD.out _).mono ?_;rintro e w9 ⟨rfl,rfl⟩)|(go_at_call 101;refine (HM.out _ _ HQ.out.1).mono ?_;rintro e w2 ⟨v,rfl,p1,p2,p3⟩;rw[hkx] at p3;obtain⟨fv,fb,fc,e3⟩:=SRep.form p3;subst e3;have z25:=p1.engF 25;obtain⟨vo,y25⟩:∃ vo,w2.cell? ⟨A.be,25,none⟩=some vo:=⟨_,p1.eng 25 rfl⟩;have q5:=HQ.out.2.trans p2;have HP:=zH p3;clear p2 p3));go_ret;obtain⟨A',a1,a2,a3,a4,a5⟩:=p1.sweepPut _ _ HP.out;exact⟨rfl,A',a1,a3,q5.trans a4,a5,fun hc=>hc.keep a2 rfl (q5.trans a4)⟩
theorem k_garbage_y (hR:Rep A σ w) (key ahead link b:Nat) (hv:VL σ link) (hw:σ.word (wslot link 1)<18446744073709551616) (hg:garbage (σ.word (wslot link 1)) σ.low=true) (hcnt:σ.count<4000000000000000000) (b0:Nat) (b1:Nat) (b2:Nat) (b3:Nat) (b4:Nat) (B0:Box A.L w b0 (zu (b:Int))) (B1:Box A.L w b1 (.pointer (some ⟨A.be,0,none⟩))) (B2:Box A.L w b2 (zu (link:Int))) (B3:Box A.L w b3 (zi (key:Int))) (B4:Box A.L w b4 (zu (ahead:Int))):
 Calls Tryz.prog 198 #[.pointer (some ⟨b0,0,none⟩),.pointer (some ⟨b1,0,none⟩),.pointer (some ⟨b2,0,none⟩),.pointer (some ⟨b3,0,none⟩),.pointer (some ⟨b4,0,none⟩)] w (SRan A σ w (σ.sweepRun (.garbage key ahead link b))):=by
 have c0:=B0.cell;have c1:=B1.cell;have c2:=B2.cell;have c3:=B3.cell;have c4:=B4.cell;have e2:=hR.z2;have e3:w.cell? ⟨A.be,26,none⟩=some (zu (σ.low:Int)):=hR.eng 26 rfl;have hsl:=hR.sl;have HS:=zH (slot_at link 1 1 rfl hv.lo (by have:=hv.hi;omega) hv.u (by omega));have HGA:=zH (garb_any b (σ.word (wslot link 1)) σ.low hw);have HL:Hid (∀ w',Rep A σ w'→Calls Tryz.prog 42 #[.pointer (some ⟨A.ba,0,none⟩),zi (((wslot link 1:Nat):Int))] w' (Did A w' σ.tick (zu (σ.word (wslot link 1):Int)))):=fun w' r=>load_i r (wslot link 1) (((wslot link 1:Nat):Int)) rfl (wslot_lt r hv.lo hv.hi (by omega)) hcnt
 have HRd:Hid (Rep A σ w.drew):=hR.drew;have HKK:Hid (∀ w',Rep A σ.tick w'→Grow A.L w A.L w'→w'.cell? ⟨b0,0,none⟩=some (zu (b:Int))∧w'.cell? ⟨b1,0,none⟩=some (.pointer (some ⟨A.be,0,none⟩))∧w'.cell? ⟨b2,0,none⟩=some (zu (link:Int))∧w'.cell? ⟨b3,0,none⟩=some (zi (key:Int))∧w'.cell? ⟨b4,0,none⟩=some (zu (ahead:Int))∧w'.cell? ⟨A.be,2,none⟩=some (.pointer (some ⟨A.ba,0,none⟩))∧w'.cell? ⟨A.be,26,none⟩=some (zu (σ.low:Int))):=fun w' r g=>⟨(B0.grow g).cell,(B1.grow g).cell,(B2.grow g).cell,(B3.grow g).cell,(B4.grow g).cell,r.eng 2 rfl,r.eng 26 rfl⟩
 have HKS:Hid (∀ w' x,Rep A σ.tick w'→Grow A.L w A.L w'→(w'.setCell ⟨A.be,25,none⟩ x).cell? ⟨b0,0,none⟩=some (zu (b:Int))∧(w'.setCell ⟨A.be,25,none⟩ x).cell? ⟨b1,0,none⟩=some (.pointer (some ⟨A.be,0,none⟩))∧(w'.setCell ⟨A.be,25,none⟩ x).cell? ⟨b2,0,none⟩=some (zu (link:Int))∧(w'.setCell ⟨A.be,25,none⟩ x).cell? ⟨b3,0,none⟩=some (zi (key:Int))∧(w'.setCell ⟨A.be,25,none⟩ x).cell? ⟨b4,0,none⟩=some (zu (ahead:Int))∧(w'.setCell ⟨A.be,25,none⟩ x).cell? ⟨A.be,2,none⟩=some (.pointer (some ⟨A.ba,0,none⟩))∧(w'.setCell ⟨A.be,25,none⟩ x).cell? ⟨A.be,26,none⟩=some (zu (σ.low:Int))):=fun w' x r g=>let ⟨r',g'⟩:=r.sweepSet x .now;⟨(B0.grow (g.trans g')).cell,(B1.grow (g.trans g')).cell,(B2.grow (g.trans g')).cell,(B3.grow (g.trans g')).cell,(B4.grow (g.trans g')).cell,r'.eng 2 rfl,r'.eng 26 rfl⟩
 have HM:Hid (∀ w',Rep A σ.tick w'→Calls Tryz.prog 196 #[.pointer (some ⟨A.be,0,none⟩),zi (key:Int),zu (ahead:Int),zu (link:Int)] w' (STells A σ.tick w' (some (.unlink key ahead link)))):=fun w' r=>sunlink_any r key ahead link
 have HG:=zG A.L w;clear hR hcnt B0 B1 B2 B3 B4;have HRES:σ.sweepRun (.garbage key ahead link b)=({σ.tick with sw:=some (.unlink key ahead link)},false):=by simp only[St.sweepRun,St.tick,hg];rfl
 rw[HRES];rw[hg] at HGA;clear hv hw hg hsl;generalize (σ.word (wslot link 1):Int)=hd at*;generalize ((wslot link 1:Nat):Int)=ix at*;have HLB:Hid (∀ w' w9,Rep A σ.tick w'→Below w'.heap.size w' w9→Rep A σ.tick w9∧Grow A.L w' A.L w9):=fun w' w9 r h=>⟨r.below h,Grow.below h⟩
 go_enter Tryz.func198,Tryz.ntmps198;go_wp2_with fail
 go_region_held3 (fun w'=>w'.cell? ⟨b0,0,none⟩=some (zu (b:Int))∧w'.cell? ⟨b1,0,none⟩=some (.pointer (some ⟨A.be,0,none⟩))∧w'.cell? ⟨b2,0,none⟩=some (zu (link:Int))∧w'.cell? ⟨b3,0,none⟩=some (zi (key:Int))∧w'.cell? ⟨b4,0,none⟩=some (zu (ahead:Int))∧w'.cell? ⟨A.be,2,none⟩=some (.pointer (some ⟨A.ba,0,none⟩))∧w'.cell? ⟨A.be,26,none⟩=some (zu (σ.low:Int)))
  (first|exact⟨c0,c1,c2,c3,c4,e2,e3⟩|assumption|go_keep|exact HKK.out _ (by assumption) (by assumption))
  (first|(go_at_call 85;refine (HS.out _).mono ?_;rintro e w9 ⟨rfl,rfl⟩)|(go_at_call 42;refine (HL.out _ HRd.out).mono ?_;rintro e w1 ⟨rfl,q1,q2⟩;have q4:=HG.out.trans q2;clear q2)|(go_at_call 199;refine (HGA.out _).mono ?_;rintro e w5 ⟨rfl,hb⟩;obtain⟨q5,q6⟩:=HLB.out _ _ (by assumption) hb;have q7:=(‹Grow A.L w A.L _›).trans q6;clear q6 hb))
 obtain⟨d0,d1,d2,d3,d4,d9,d10⟩:=HKK.out _ q5 q7;have HQ1:=zH q5.drew;have HG1:=zH (q7.trans (Grow.drew _ _));go_wp2_with fail
 go_region_held3 (fun w'=>w'.cell? ⟨b0,0,none⟩=some (zu (b:Int))∧w'.cell? ⟨b1,0,none⟩=some (.pointer (some ⟨A.be,0,none⟩))∧w'.cell? ⟨b2,0,none⟩=some (zu (link:Int))∧w'.cell? ⟨b3,0,none⟩=some (zi (key:Int))∧w'.cell? ⟨b4,0,none⟩=some (zu (ahead:Int))∧w'.cell? ⟨A.be,2,none⟩=some (.pointer (some ⟨A.ba,0,none⟩))∧w'.cell? ⟨A.be,26,none⟩=some (zu (σ.low:Int)))
  (first|exact⟨d0,d1,d2,d3,d4,d9,d10⟩|assumption|go_keep|exact HKK.out _ (by assumption) (by assumption)|exact HKS.out _ _ (by assumption) (by assumption))
  (first|(go_at_call 196;refine (HM.out _ HQ1.out).mono ?_;rintro e w2 ⟨v,rfl,p1,p2,p3⟩;obtain⟨fv,fb,fc,e3⟩:=SRep.form p3;subst e3;obtain⟨vo,y25⟩:∃ vo,w2.cell? ⟨A.be,25,none⟩=some vo:=⟨_,p1.eng 25 (v:=A.sv σ.tick.sw) rfl⟩;have z25:=p1.engF 25;have q5:=HG1.out.trans p2;have HP:=zH p3;clear p2 p3))
 go_wp2_with fail;go_ret;obtain⟨A',a1,a2,a3,a4,a5⟩:=p1.sweepPut _ _ HP.out;exact⟨rfl,A',a1,a3,q5.trans a4,a5,fun hc=>hc.keep a2 rfl (q5.trans a4)⟩
theorem k_garbage_n (hR:Rep A σ w) (key ahead link b:Nat) (hv:VL σ link) (hw:σ.word (wslot link 1)<18446744073709551616) (hg:garbage (σ.word (wslot link 1)) σ.low=false) (hcnt:σ.count<4000000000000000000) (b0:Nat) (b1:Nat) (b2:Nat) (b3:Nat) (b4:Nat) (B0:Box A.L w b0 (zu (b:Int))) (B1:Box A.L w b1 (.pointer (some ⟨A.be,0,none⟩))) (B2:Box A.L w b2 (zu (link:Int))) (B3:Box A.L w b3 (zi (key:Int))) (B4:Box A.L w b4 (zu (ahead:Int))):
 Calls Tryz.prog 198 #[.pointer (some ⟨b0,0,none⟩),.pointer (some ⟨b1,0,none⟩),.pointer (some ⟨b2,0,none⟩),.pointer (some ⟨b3,0,none⟩),.pointer (some ⟨b4,0,none⟩)] w (SRan A σ w (σ.sweepRun (.garbage key ahead link b))):=by
 have c0:=B0.cell;have c1:=B1.cell;have c2:=B2.cell;have c3:=B3.cell;have c4:=B4.cell;have e2:=hR.z2;have e3:w.cell? ⟨A.be,26,none⟩=some (zu (σ.low:Int)):=hR.eng 26 rfl;have hsl:=hR.sl;have HS:=zH (slot_at link 1 1 rfl hv.lo (by have:=hv.hi;omega) hv.u (by omega));have HGA:=zH (garb_any b (σ.word (wslot link 1)) σ.low hw);have HL:Hid (∀ w',Rep A σ w'→Calls Tryz.prog 42 #[.pointer (some ⟨A.ba,0,none⟩),zi (((wslot link 1:Nat):Int))] w' (Did A w' σ.tick (zu (σ.word (wslot link 1):Int)))):=fun w' r=>load_i r (wslot link 1) (((wslot link 1:Nat):Int)) rfl (wslot_lt r hv.lo hv.hi (by omega)) hcnt
 have HRd:Hid (Rep A σ w.drew):=hR.drew;have HKK:Hid (∀ w',Rep A σ.tick w'→Grow A.L w A.L w'→w'.cell? ⟨b0,0,none⟩=some (zu (b:Int))∧w'.cell? ⟨b1,0,none⟩=some (.pointer (some ⟨A.be,0,none⟩))∧w'.cell? ⟨b2,0,none⟩=some (zu (link:Int))∧w'.cell? ⟨b3,0,none⟩=some (zi (key:Int))∧w'.cell? ⟨b4,0,none⟩=some (zu (ahead:Int))∧w'.cell? ⟨A.be,2,none⟩=some (.pointer (some ⟨A.ba,0,none⟩))∧w'.cell? ⟨A.be,26,none⟩=some (zu (σ.low:Int))):=fun w' r g=>⟨(B0.grow g).cell,(B1.grow g).cell,(B2.grow g).cell,(B3.grow g).cell,(B4.grow g).cell,r.eng 2 rfl,r.eng 26 rfl⟩
 have HKS:Hid (∀ w' x,Rep A σ.tick w'→Grow A.L w A.L w'→(w'.setCell ⟨A.be,25,none⟩ x).cell? ⟨b0,0,none⟩=some (zu (b:Int))∧(w'.setCell ⟨A.be,25,none⟩ x).cell? ⟨b1,0,none⟩=some (.pointer (some ⟨A.be,0,none⟩))∧(w'.setCell ⟨A.be,25,none⟩ x).cell? ⟨b2,0,none⟩=some (zu (link:Int))∧(w'.setCell ⟨A.be,25,none⟩ x).cell? ⟨b3,0,none⟩=some (zi (key:Int))∧(w'.setCell ⟨A.be,25,none⟩ x).cell? ⟨b4,0,none⟩=some (zu (ahead:Int))∧(w'.setCell ⟨A.be,25,none⟩ x).cell? ⟨A.be,2,none⟩=some (.pointer (some ⟨A.ba,0,none⟩))∧(w'.setCell ⟨A.be,25,none⟩ x).cell? ⟨A.be,26,none⟩=some (zu (σ.low:Int))):=fun w' x r g=>let ⟨r',g'⟩:=r.sweepSet x .now;⟨(B0.grow (g.trans g')).cell,(B1.grow (g.trans g')).cell,(B2.grow (g.trans g')).cell,(B3.grow (g.trans g')).cell,(B4.grow (g.trans g')).cell,r'.eng 2 rfl,r'.eng 26 rfl⟩
 have HM:Hid (∀ w',Rep A σ.tick w'→Calls Tryz.prog 197 #[.pointer (some ⟨A.be,0,none⟩),zi (key:Int),zu (link:Int)] w' (STells A σ.tick w' (some (.on key link)))):=fun w' r=>son_any r key link
 have HG:=zG A.L w;clear hR hcnt B0 B1 B2 B3 B4;have HRES:σ.sweepRun (.garbage key ahead link b)=({σ.tick with sw:=some (.on key link)},false):=by simp only[St.sweepRun,St.tick,hg];rfl
 rw[HRES];rw[hg] at HGA;clear hv hw hg hsl;generalize (σ.word (wslot link 1):Int)=hd at*;generalize ((wslot link 1:Nat):Int)=ix at*;have HLB:Hid (∀ w' w9,Rep A σ.tick w'→Below w'.heap.size w' w9→Rep A σ.tick w9∧Grow A.L w' A.L w9):=fun w' w9 r h=>⟨r.below h,Grow.below h⟩
 go_enter Tryz.func198,Tryz.ntmps198;go_wp2_with fail
 go_region_held3 (fun w'=>w'.cell? ⟨b0,0,none⟩=some (zu (b:Int))∧w'.cell? ⟨b1,0,none⟩=some (.pointer (some ⟨A.be,0,none⟩))∧w'.cell? ⟨b2,0,none⟩=some (zu (link:Int))∧w'.cell? ⟨b3,0,none⟩=some (zi (key:Int))∧w'.cell? ⟨b4,0,none⟩=some (zu (ahead:Int))∧w'.cell? ⟨A.be,2,none⟩=some (.pointer (some ⟨A.ba,0,none⟩))∧w'.cell? ⟨A.be,26,none⟩=some (zu (σ.low:Int)))
  (first|exact⟨c0,c1,c2,c3,c4,e2,e3⟩|assumption|go_keep|exact HKK.out _ (by assumption) (by assumption))
  (first|(go_at_call 85;refine (HS.out _).mono ?_;rintro e w9 ⟨rfl,rfl⟩)|(go_at_call 42;refine (HL.out _ HRd.out).mono ?_;rintro e w1 ⟨rfl,q1,q2⟩;have q4:=HG.out.trans q2;clear q2)|(go_at_call 199;refine (HGA.out _).mono ?_;rintro e w5 ⟨rfl,hb⟩;obtain⟨q5,q6⟩:=HLB.out _ _ (by assumption) hb;have q7:=(‹Grow A.L w A.L _›).trans q6;clear q6 hb))
 obtain⟨d0,d1,d2,d3,d4,d9,d10⟩:=HKK.out _ q5 q7;have HQ1:=zH q5.drew;have HG1:=zH (q7.trans (Grow.drew _ _));go_wp2_with fail
 go_region_held3 (fun w'=>w'.cell? ⟨b0,0,none⟩=some (zu (b:Int))∧w'.cell? ⟨b1,0,none⟩=some (.pointer (some ⟨A.be,0,none⟩))∧w'.cell? ⟨b2,0,none⟩=some (zu (link:Int))∧w'.cell? ⟨b3,0,none⟩=some (zi (key:Int))∧w'.cell? ⟨b4,0,none⟩=some (zu (ahead:Int))∧w'.cell? ⟨A.be,2,none⟩=some (.pointer (some ⟨A.ba,0,none⟩))∧w'.cell? ⟨A.be,26,none⟩=some (zu (σ.low:Int)))
  (first|exact⟨d0,d1,d2,d3,d4,d9,d10⟩|assumption|go_keep|exact HKK.out _ (by assumption) (by assumption)|exact HKS.out _ _ (by assumption) (by assumption))
  (first|(go_at_call 197;refine (HM.out _ HQ1.out).mono ?_;rintro e w2 ⟨v,rfl,p1,p2,p3⟩;obtain⟨fv,fb,fc,e3⟩:=SRep.form p3;subst e3;obtain⟨vo,y25⟩:∃ vo,w2.cell? ⟨A.be,25,none⟩=some vo:=⟨_,p1.eng 25 (v:=A.sv σ.tick.sw) rfl⟩;have z25:=p1.engF 25;have q5:=HG1.out.trans p2;have HP:=zH p3;clear p2 p3))
 go_wp2_with fail;go_ret;obtain⟨A',a1,a2,a3,a4,a5⟩:=p1.sweepPut _ _ HP.out;exact⟨rfl,A',a1,a3,q5.trans a4,a5,fun hc=>hc.keep a2 rfl (q5.trans a4)⟩
theorem rd_le (x:Nat) (hx:x<18446744073709551616):(rd x).2<9223372036854775808∧IntKind.i64.wrap ((rd x).2:Int)=((rd x).2:Int):=by
 have h:(rd x).2<9223372036854775808:=by
  unfold rd
  repeat' split
  all_goals (first|(simp[tm] at *;omega)|(simp;done)|(simp[txnBit] at *;omega))
 exact⟨h,by rw[IntKind.wrap_i64];omega⟩
theorem k_svisit_y (hR:Rep A σ w) (key ahead link:Nat) (hv:VL σ link) (hw:σ.word (wslot link 0)<18446744073709551616) (h2:((rd (σ.word (wslot link 0))).1=2)=True) (hcnt:σ.count<4000000000000000000) (b0:Nat) (b1:Nat) (b2:Nat) (b3:Nat) (B0:Box A.L w b0 (.pointer (some ⟨A.be,0,none⟩))) (B1:Box A.L w b1 (zu (link:Int))) (B2:Box A.L w b2 (zi (key:Int))) (B3:Box A.L w b3 (zu (ahead:Int))):
 Calls Tryz.prog 179 #[.pointer (some ⟨b0,0,none⟩),.pointer (some ⟨b1,0,none⟩),.pointer (some ⟨b2,0,none⟩),.pointer (some ⟨b3,0,none⟩)] w (SRan A σ w (σ.sweepRun (.visit key ahead link))):=by
 have c0:=B0.cell;have c1:=B1.cell;have c2:=B2.cell;have c3:=B3.cell;have e2:=hR.z2;have hsl:=hR.sl;have HS:=zH (slot_at link 0 0 rfl hv.lo (by have:=hv.hi;omega) hv.u (by omega));have HRD:=zH (rd_any (σ.word (wslot link 0)) hw);have hrn:=rd_le (σ.word (wslot link 0)) hw;have HL:Hid (∀ w',Rep A σ w'→Calls Tryz.prog 42 #[.pointer (some ⟨A.ba,0,none⟩),zi (((wslot link 0:Nat):Int))] w' (Did A w' σ.tick (zu (σ.word (wslot link 0):Int)))):=fun w' r=>load_i r (wslot link 0) (((wslot link 0:Nat):Int)) rfl (wslot_lt r hv.lo hv.hi (by omega)) hcnt
 have HRd:Hid (Rep A σ w.drew):=hR.drew;have HKK:Hid (∀ w',Rep A σ.tick w'→Grow A.L w A.L w'→w'.cell? ⟨b0,0,none⟩=some (.pointer (some ⟨A.be,0,none⟩))∧w'.cell? ⟨b1,0,none⟩=some (zu (link:Int))∧w'.cell? ⟨b2,0,none⟩=some (zi (key:Int))∧w'.cell? ⟨b3,0,none⟩=some (zu (ahead:Int))∧w'.cell? ⟨A.be,2,none⟩=some (.pointer (some ⟨A.ba,0,none⟩))):=fun w' r g=>⟨(B0.grow g).cell,(B1.grow g).cell,(B2.grow g).cell,(B3.grow g).cell,r.eng 2 rfl⟩
 have HKS:Hid (∀ w' x,Rep A σ.tick w'→Grow A.L w A.L w'→(w'.setCell ⟨A.be,25,none⟩ x).cell? ⟨b0,0,none⟩=some (.pointer (some ⟨A.be,0,none⟩))∧(w'.setCell ⟨A.be,25,none⟩ x).cell? ⟨b1,0,none⟩=some (zu (link:Int))∧(w'.setCell ⟨A.be,25,none⟩ x).cell? ⟨b2,0,none⟩=some (zi (key:Int))∧(w'.setCell ⟨A.be,25,none⟩ x).cell? ⟨b3,0,none⟩=some (zu (ahead:Int))∧(w'.setCell ⟨A.be,25,none⟩ x).cell? ⟨A.be,2,none⟩=some (.pointer (some ⟨A.ba,0,none⟩))):=fun w' x r g=>let ⟨r',g'⟩:=r.sweepSet x .now;⟨(B0.grow (g.trans g')).cell,(B1.grow (g.trans g')).cell,(B2.grow (g.trans g')).cell,(B3.grow (g.trans g')).cell,r'.eng 2 rfl⟩
 have HM:Hid (∀ w',Rep A σ.tick w'→Calls Tryz.prog 180 #[.pointer (some ⟨A.be,0,none⟩),zi (key:Int),zu (ahead:Int),zu (link:Int),zi ((rd (σ.word (wslot link 0))).2:Int)] w' (STells A σ.tick w' (some (.maker key ahead link (rd (σ.word (wslot link 0))).2)))):=fun w' r=>smaker_any r key ahead link (rd (σ.word (wslot link 0))).2
 have HG:=zG A.L w;clear hR hcnt B0 B1 B2 B3;have HRES:σ.sweepRun (.visit key ahead link)=({σ.tick with sw:=some (.maker key ahead link (rd (σ.word (wslot link 0))).2)},false):=by simp only[St.sweepRun,h2];rfl
 rw[HRES];have f1:(((rd (σ.word (wslot link 0))).1:Int)=2)=True:=by have:=h2;simp at this ⊢;omega
 have f2:(((rd (σ.word (wslot link 0))).1:Int)==2)=true:=by have:=h2;simp at this ⊢;omega
 have n1:=hrn.2;clear hv hsl hw h2 hrn;generalize hkk:S.maker key ahead link (rd (σ.word (wslot link 0))).2=kk at*;clear hkk;generalize ((rd (σ.word (wslot link 0))).1:Int)=zk at*;generalize ((rd (σ.word (wslot link 0))).2:Int)=zn at*;generalize (σ.word (wslot link 0):Int)=hd at*;generalize ((wslot link 0:Nat):Int)=ix at*;go_enter Tryz.func179,Tryz.ntmps179;go_wp2_with fail
 go_region_held3 (fun w'=>w'.cell? ⟨b0,0,none⟩=some (.pointer (some ⟨A.be,0,none⟩))∧w'.cell? ⟨b1,0,none⟩=some (zu (link:Int))∧w'.cell? ⟨b2,0,none⟩=some (zi (key:Int))∧w'.cell? ⟨b3,0,none⟩=some (zu (ahead:Int))∧w'.cell? ⟨A.be,2,none⟩=some (.pointer (some ⟨A.ba,0,none⟩)))
  (first|exact⟨c0,c1,c2,c3,e2⟩|assumption|go_keep|exact HKK.out _ (by assumption) (by assumption))
  (first|(go_at_call 85;refine (HS.out _).mono ?_;rintro e w9 ⟨rfl,rfl⟩)|(go_at_call 42;refine (HL.out _ HRd.out).mono ?_;rintro e w1 ⟨rfl,q1,q2⟩;have q4:=HG.out.trans q2))
 have HQ:=zH (zA q1 q4);clear q1 q2 q4;go_wp2_with (go_at_call 108;refine (HRD.out _).mono ?_;rintro e w3 ⟨rfl,hb⟩;have q5:=(HQ.out.1.below hb).alloc (Obj.cells #[zi zk,zu zn] 217);have q6:=(HQ.out.2.trans (Grow.below hb)).trans (Grow.alloc _ _ (Obj.cells #[zi zk,zu zn] 217));have fx:=fix_next (HQ.out.1.below hb).mem.fresh (Obj.cells #[zi zk,zu zn] 217) rfl;have HFX:=zH fx;clear fx hb);generalize hw4:w3.alloc (Obj.cells #[zi zk,zu zn] 217)=w4 at*;obtain⟨d0,d1,d2,d3,d9⟩:=HKK.out _ q5 q6;have d8:w4.cell? ⟨w3.heap.size,1,none⟩=some (zu zn):=HFX.out.cell 1 rfl;have HQ1:=zH q5.drew;have HG1:=zH (q6.trans (Grow.drew _ _));have HK4:Hid (∀ w',Rep A σ.tick w'→Grow A.L w A.L w'→Grow A.L w4 A.L w'→w'.cell? ⟨b0,0,none⟩=some (.pointer (some ⟨A.be,0,none⟩))∧w'.cell? ⟨b1,0,none⟩=some (zu (link:Int))∧w'.cell? ⟨b2,0,none⟩=some (zi (key:Int))∧w'.cell? ⟨b3,0,none⟩=some (zu (ahead:Int))∧w'.cell? ⟨A.be,2,none⟩=some (.pointer (some ⟨A.ba,0,none⟩))∧w'.cell? ⟨w3.heap.size,1,none⟩=some (zu zn)):=fun w' r g g4=>by
  obtain⟨x0,x1,x2,x3,x9⟩:=HKK.out _ r g;exact⟨x0,x1,x2,x3,x9,(HFX.out.grow g4).cell 1 rfl⟩
 have HS4:Hid (∀ w' x,Rep A σ.tick w'→Grow A.L w A.L w'→Grow A.L w4 A.L w'→(w'.setCell ⟨A.be,25,none⟩ x).cell? ⟨b0,0,none⟩=some (.pointer (some ⟨A.be,0,none⟩))∧(w'.setCell ⟨A.be,25,none⟩ x).cell? ⟨b1,0,none⟩=some (zu (link:Int))∧(w'.setCell ⟨A.be,25,none⟩ x).cell? ⟨b2,0,none⟩=some (zi (key:Int))∧(w'.setCell ⟨A.be,25,none⟩ x).cell? ⟨b3,0,none⟩=some (zu (ahead:Int))∧(w'.setCell ⟨A.be,25,none⟩ x).cell? ⟨A.be,2,none⟩=some (.pointer (some ⟨A.ba,0,none⟩))∧(w'.setCell ⟨A.be,25,none⟩ x).cell? ⟨w3.heap.size,1,none⟩=some (zu zn)):=fun w' x r g g4=>by
  obtain⟨x0,x1,x2,x3,x9⟩:=HKS.out _ x r g;exact⟨x0,x1,x2,x3,x9,(HFX.out.grow (g4.trans (r.sweepSet x .now).2)).cell 1 rfl⟩
 go_region_held3 (fun w'=>w'.cell? ⟨b0,0,none⟩=some (.pointer (some ⟨A.be,0,none⟩))∧w'.cell? ⟨b1,0,none⟩=some (zu (link:Int))∧w'.cell? ⟨b2,0,none⟩=some (zi (key:Int))∧w'.cell? ⟨b3,0,none⟩=some (zu (ahead:Int))∧w'.cell? ⟨A.be,2,none⟩=some (.pointer (some ⟨A.ba,0,none⟩))∧w'.cell? ⟨w3.heap.size,1,none⟩=some (zu zn))
  (first|exact⟨d0,d1,d2,d3,d9,d8⟩|assumption|go_keep|exact HK4.out _ (by assumption) (by assumption) (by assumption)|exact HS4.out _ _ (by assumption) (by assumption) (by assumption))
  (first|(go_at_call 180;refine (HM.out _ HQ1.out).mono ?_;rintro e w2 ⟨v,rfl,p1,p2,p3⟩;obtain⟨fv,fb,fc,e3⟩:=SRep.form p3;subst e3;obtain⟨vo,y25⟩:∃ vo,w2.cell? ⟨A.be,25,none⟩=some vo:=⟨_,p1.eng 25 (v:=A.sv σ.tick.sw) rfl⟩;have z25:=p1.engF 25;have q7:=HG1.out.trans p2;have q8:=(Grow.drew A.L w4).trans p2;have HP:=zH p3;clear p2 p3))
 go_wp2_with fail;go_ret;obtain⟨A',a1,a2,a3,a4,a5⟩:=p1.sweepPut _ _ HP.out;exact⟨rfl,A',a1,a3,q7.trans a4,a5,fun hc=>hc.keep a2 rfl (q7.trans a4)⟩
theorem k_svisit_n (hR:Rep A σ w) (key ahead link:Nat) (hv:VL σ link) (hw:σ.word (wslot link 0)<18446744073709551616) (h2:((rd (σ.word (wslot link 0))).1=2)=False) (hcnt:σ.count<4000000000000000000) (b0:Nat) (b1:Nat) (b2:Nat) (b3:Nat) (B0:Box A.L w b0 (.pointer (some ⟨A.be,0,none⟩))) (B1:Box A.L w b1 (zu (link:Int))) (B2:Box A.L w b2 (zi (key:Int))) (B3:Box A.L w b3 (zu (ahead:Int))):
 Calls Tryz.prog 179 #[.pointer (some ⟨b0,0,none⟩),.pointer (some ⟨b1,0,none⟩),.pointer (some ⟨b2,0,none⟩),.pointer (some ⟨b3,0,none⟩)] w (SRan A σ w (σ.sweepRun (.visit key ahead link))):=by
 have c0:=B0.cell;have c1:=B1.cell;have c2:=B2.cell;have c3:=B3.cell;have e2:=hR.z2;have hsl:=hR.sl;have HS:=zH (slot_at link 0 0 rfl hv.lo (by have:=hv.hi;omega) hv.u (by omega));have HRD:=zH (rd_any (σ.word (wslot link 0)) hw);have hrn:=rd_le (σ.word (wslot link 0)) hw;have HL:Hid (∀ w',Rep A σ w'→Calls Tryz.prog 42 #[.pointer (some ⟨A.ba,0,none⟩),zi (((wslot link 0:Nat):Int))] w' (Did A w' σ.tick (zu (σ.word (wslot link 0):Int)))):=fun w' r=>load_i r (wslot link 0) (((wslot link 0:Nat):Int)) rfl (wslot_lt r hv.lo hv.hi (by omega)) hcnt
 have HRd:Hid (Rep A σ w.drew):=hR.drew;have HKK:Hid (∀ w',Rep A σ.tick w'→Grow A.L w A.L w'→w'.cell? ⟨b0,0,none⟩=some (.pointer (some ⟨A.be,0,none⟩))∧w'.cell? ⟨b1,0,none⟩=some (zu (link:Int))∧w'.cell? ⟨b2,0,none⟩=some (zi (key:Int))∧w'.cell? ⟨b3,0,none⟩=some (zu (ahead:Int))∧w'.cell? ⟨A.be,2,none⟩=some (.pointer (some ⟨A.ba,0,none⟩))):=fun w' r g=>⟨(B0.grow g).cell,(B1.grow g).cell,(B2.grow g).cell,(B3.grow g).cell,r.eng 2 rfl⟩
 have HKS:Hid (∀ w' x,Rep A σ.tick w'→Grow A.L w A.L w'→(w'.setCell ⟨A.be,25,none⟩ x).cell? ⟨b0,0,none⟩=some (.pointer (some ⟨A.be,0,none⟩))∧(w'.setCell ⟨A.be,25,none⟩ x).cell? ⟨b1,0,none⟩=some (zu (link:Int))∧(w'.setCell ⟨A.be,25,none⟩ x).cell? ⟨b2,0,none⟩=some (zi (key:Int))∧(w'.setCell ⟨A.be,25,none⟩ x).cell? ⟨b3,0,none⟩=some (zu (ahead:Int))∧(w'.setCell ⟨A.be,25,none⟩ x).cell? ⟨A.be,2,none⟩=some (.pointer (some ⟨A.ba,0,none⟩))):=fun w' x r g=>let ⟨r',g'⟩:=r.sweepSet x .now;⟨(B0.grow (g.trans g')).cell,(B1.grow (g.trans g')).cell,(B2.grow (g.trans g')).cell,(B3.grow (g.trans g')).cell,r'.eng 2 rfl⟩
 have HM:Hid (∀ w',Rep A σ.tick w'→Calls Tryz.prog 181 #[.pointer (some ⟨A.be,0,none⟩),zi (key:Int),zu (ahead:Int),zu (link:Int),zu (σ.word (wslot link 0):Int)] w' (STells A σ.tick w' (some (.garbage key ahead link (σ.word (wslot link 0)))))):=fun w' r=>sgarbage_any r key ahead link (σ.word (wslot link 0))
 have HG:=zG A.L w;clear hR hcnt B0 B1 B2 B3;have HRES:σ.sweepRun (.visit key ahead link)=({σ.tick with sw:=some (.garbage key ahead link (σ.word (wslot link 0)))},false):=by simp only[St.sweepRun,h2];rfl
 rw[HRES];have f1:(((rd (σ.word (wslot link 0))).1:Int)=2)=False:=by have:=h2;simp at this ⊢;omega
 have f2:(((rd (σ.word (wslot link 0))).1:Int)==2)=false:=by have:=h2;simp at this ⊢;omega
 have n1:=hrn.2;clear hv hsl hw h2 hrn;generalize hkk:S.garbage key ahead link (σ.word (wslot link 0))=kk at*;clear hkk;generalize ((rd (σ.word (wslot link 0))).1:Int)=zk at*;generalize ((rd (σ.word (wslot link 0))).2:Int)=zn at*;generalize (σ.word (wslot link 0):Int)=hd at*;generalize ((wslot link 0:Nat):Int)=ix at*;go_enter Tryz.func179,Tryz.ntmps179;go_wp2_with fail
 go_region_held3 (fun w'=>w'.cell? ⟨b0,0,none⟩=some (.pointer (some ⟨A.be,0,none⟩))∧w'.cell? ⟨b1,0,none⟩=some (zu (link:Int))∧w'.cell? ⟨b2,0,none⟩=some (zi (key:Int))∧w'.cell? ⟨b3,0,none⟩=some (zu (ahead:Int))∧w'.cell? ⟨A.be,2,none⟩=some (.pointer (some ⟨A.ba,0,none⟩)))
  (first|exact⟨c0,c1,c2,c3,e2⟩|assumption|go_keep|exact HKK.out _ (by assumption) (by assumption))
  (first|(go_at_call 85;refine (HS.out _).mono ?_;rintro e w9 ⟨rfl,rfl⟩)|(go_at_call 42;refine (HL.out _ HRd.out).mono ?_;rintro e w1 ⟨rfl,q1,q2⟩;have q4:=HG.out.trans q2))
 have HQ:=zH (zA q1 q4);clear q1 q2 q4;go_wp2_with (go_at_call 108;refine (HRD.out _).mono ?_;rintro e w3 ⟨rfl,hb⟩;have q5:=(HQ.out.1.below hb).alloc (Obj.cells #[zi zk,zu zn] 217);have q6:=(HQ.out.2.trans (Grow.below hb)).trans (Grow.alloc _ _ (Obj.cells #[zi zk,zu zn] 217));have fx:=fix_next (HQ.out.1.below hb).mem.fresh (Obj.cells #[zi zk,zu zn] 217) rfl;have HFX:=zH fx;clear fx hb);generalize hw4:w3.alloc (Obj.cells #[zi zk,zu zn] 217)=w4 at*;obtain⟨d0,d1,d2,d3,d9⟩:=HKK.out _ q5 q6;have d8:w4.cell? ⟨w3.heap.size,1,none⟩=some (zu zn):=HFX.out.cell 1 rfl;have HQ1:=zH q5.drew;have HG1:=zH (q6.trans (Grow.drew _ _));have HK4:Hid (∀ w',Rep A σ.tick w'→Grow A.L w A.L w'→Grow A.L w4 A.L w'→w'.cell? ⟨b0,0,none⟩=some (.pointer (some ⟨A.be,0,none⟩))∧w'.cell? ⟨b1,0,none⟩=some (zu (link:Int))∧w'.cell? ⟨b2,0,none⟩=some (zi (key:Int))∧w'.cell? ⟨b3,0,none⟩=some (zu (ahead:Int))∧w'.cell? ⟨A.be,2,none⟩=some (.pointer (some ⟨A.ba,0,none⟩))∧w'.cell? ⟨w3.heap.size,1,none⟩=some (zu zn)):=fun w' r g g4=>by
  obtain⟨x0,x1,x2,x3,x9⟩:=HKK.out _ r g;exact⟨x0,x1,x2,x3,x9,(HFX.out.grow g4).cell 1 rfl⟩
 have HS4:Hid (∀ w' x,Rep A σ.tick w'→Grow A.L w A.L w'→Grow A.L w4 A.L w'→(w'.setCell ⟨A.be,25,none⟩ x).cell? ⟨b0,0,none⟩=some (.pointer (some ⟨A.be,0,none⟩))∧(w'.setCell ⟨A.be,25,none⟩ x).cell? ⟨b1,0,none⟩=some (zu (link:Int))∧(w'.setCell ⟨A.be,25,none⟩ x).cell? ⟨b2,0,none⟩=some (zi (key:Int))∧(w'.setCell ⟨A.be,25,none⟩ x).cell? ⟨b3,0,none⟩=some (zu (ahead:Int))∧(w'.setCell ⟨A.be,25,none⟩ x).cell? ⟨A.be,2,none⟩=some (.pointer (some ⟨A.ba,0,none⟩))∧(w'.setCell ⟨A.be,25,none⟩ x).cell? ⟨w3.heap.size,1,none⟩=some (zu zn)):=fun w' x r g g4=>by
  obtain⟨x0,x1,x2,x3,x9⟩:=HKS.out _ x r g;exact⟨x0,x1,x2,x3,x9,(HFX.out.grow (g4.trans (r.sweepSet x .now).2)).cell 1 rfl⟩
 go_region_held3 (fun w'=>w'.cell? ⟨b0,0,none⟩=some (.pointer (some ⟨A.be,0,none⟩))∧w'.cell? ⟨b1,0,none⟩=some (zu (link:Int))∧w'.cell? ⟨b2,0,none⟩=some (zi (key:Int))∧w'.cell? ⟨b3,0,none⟩=some (zu (ahead:Int))∧w'.cell? ⟨A.be,2,none⟩=some (.pointer (some ⟨A.ba,0,none⟩))∧w'.cell? ⟨w3.heap.size,1,none⟩=some (zu zn))
  (first|exact⟨d0,d1,d2,d3,d9,d8⟩|assumption|go_keep|exact HK4.out _ (by assumption) (by assumption) (by assumption)|exact HS4.out _ _ (by assumption) (by assumption) (by assumption))
  (first|(go_at_call 181;refine (HM.out _ HQ1.out).mono ?_;rintro e w2 ⟨v,rfl,p1,p2,p3⟩;obtain⟨fv,fb,fc,e3⟩:=SRep.form p3;subst e3;obtain⟨vo,y25⟩:∃ vo,w2.cell? ⟨A.be,25,none⟩=some vo:=⟨_,p1.eng 25 (v:=A.sv σ.tick.sw) rfl⟩;have z25:=p1.engF 25;have q7:=HG1.out.trans p2;have q8:=(Grow.drew A.L w4).trans p2;have HP:=zH p3;clear p2 p3))
 go_wp2_with fail;go_ret;obtain⟨A',a1,a2,a3,a4,a5⟩:=p1.sweepPut _ _ HP.out;exact⟨rfl,A',a1,a3,q7.trans a4,a5,fun hc=>hc.keep a2 rfl (q7.trans a4)⟩
end Go.Proofs.YthicolbbmjfkfaaGreat.Em
