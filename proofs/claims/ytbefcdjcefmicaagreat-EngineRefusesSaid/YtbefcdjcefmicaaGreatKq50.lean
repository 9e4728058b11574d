import Derived.Test.YtbefcdjcefmicaaGreatKq49
namespace Go.Proofs.YtbefcdjcefmicaaGreat.Em
open Go.ChangeShapes Go.WideShapes Go.ChangeAt Go.RowKit En
set_option linter.unusedVariables false
set_option linter.unusedSimpArgs false
set_option maxRecDepth 100000
set_option maxHeartbeats 1600000
theorem cell_alloc_keep' {w:World} {o:Obj} {a:Addr} {v:Value} (h:w.cell? a=some v):(w.alloc o).cell? a=some v:=by
 rw[World.cell?_alloc_some _ _ _ (by rw[h];rfl)];exact h
theorem CutOk.form {A:Book} {l:List (Nat×Nat)} (h:CutOk A l):∃ av n c,A.vcut=.slice av n c:=by
 rcases h with ⟨-,h,-⟩|⟨-,k,cap,h,-⟩<;>exact⟨_,_,_,h⟩
theorem k_cut_miss {A:Book} {σ:St} {w:World} (hR:Rep A σ w) (key ahead link nx:Nat) (hk:key≤63) (hah:ahead=0) (hok:σ.word (9+key)≠link) (hcnt:σ.count<4000000000000000000) (b0 b1 b2 b3 b4:Nat) (B0:Box A.L w b0 (zu (ahead:Int))) (B1:Box A.L w b1 (.pointer (some ⟨A.be,0,none⟩))) (B2:Box A.L w b2 (zu (nx:Int))) (B3:Box A.L w b3 (zi (key:Int))) (B4:Box A.L w b4 (zu (link:Int))):
 Calls Tryz.prog 234 #[.pointer (some ⟨b0,0,none⟩),.pointer (some ⟨b1,0,none⟩),.pointer (some ⟨b2,0,none⟩),.pointer (some ⟨b3,0,none⟩),.pointer (some ⟨b4,0,none⟩)] w (SRan A σ w (σ.sweepRun (.cut key ahead link nx))):=by
 have c0:=B0.cell;have c1:=B1.cell;have c2:=B2.cell;have c3:=B3.cell;have c4:=B4.cell;have e2:w.cell? ⟨A.be,2,none⟩=some (.pointer (some ⟨A.ba,0,none⟩)):=hR.eng 2 rfl;have hsl:=hR.sl;have n1:IntKind.i64.wrap (9+(key:Int))=9+(key:Int):=by rw[IntKind.wrap_i64];omega
 have HRd:Hid (Rep A σ w.drew):=hR.drew;have HG:Hid (Grow A.L w A.L w.drew):=Grow.drew _ _;have HKK:Hid (∀ σ' w',Rep A σ' w'→Grow A.L w A.L w'→w'.cell? ⟨b0,0,none⟩=some (zu (ahead:Int))∧w'.cell? ⟨b1,0,none⟩=some (.pointer (some ⟨A.be,0,none⟩))∧w'.cell? ⟨b2,0,none⟩=some (zu (nx:Int))∧w'.cell? ⟨b3,0,none⟩=some (zi (key:Int))∧w'.cell? ⟨b4,0,none⟩=some (zu (link:Int))∧w'.cell? ⟨A.be,2,none⟩=some (.pointer (some ⟨A.ba,0,none⟩))):=fun σ' w' r g=>⟨(B0.grow g).cell,(B1.grow g).cell,(B2.grow g).cell,(B3.grow g).cell,(B4.grow g).cell,r.eng 2 rfl⟩
 have HKS:Hid (∀ σ' w' x,Rep A σ' w'→Grow A.L w A.L w'→(w'.setCell ⟨A.be,25,none⟩ x).cell? ⟨b0,0,none⟩=some (zu (ahead:Int))∧(w'.setCell ⟨A.be,25,none⟩ x).cell? ⟨b1,0,none⟩=some (.pointer (some ⟨A.be,0,none⟩))∧(w'.setCell ⟨A.be,25,none⟩ x).cell? ⟨b2,0,none⟩=some (zu (nx:Int))∧(w'.setCell ⟨A.be,25,none⟩ x).cell? ⟨b3,0,none⟩=some (zi (key:Int))∧(w'.setCell ⟨A.be,25,none⟩ x).cell? ⟨b4,0,none⟩=some (zu (link:Int))∧(w'.setCell ⟨A.be,25,none⟩ x).cell? ⟨A.be,2,none⟩=some (.pointer (some ⟨A.ba,0,none⟩))):=fun σ' w' x r g=>let ⟨r',g'⟩:=r.sweepSet x .now;⟨(B0.grow (g.trans g')).cell,(B1.grow (g.trans g')).cell,(B2.grow (g.trans g')).cell,(B3.grow (g.trans g')).cell,(B4.grow (g.trans g')).cell,r'.eng 2 rfl⟩
 have f1:((ahead:Int)=0)=True:=by simp;omega
 have f2:((ahead:Int)==0)=true:=by simp;omega
 have f3:((ahead:Int) !=0)=false:=by simp;omega
 have HCA:Hid (∀ w',Rep A σ w'→Calls Tryz.prog 75 #[.pointer (some ⟨A.ba,0,none⟩),zi (9+(key:Int)),zu (link:Int),zu (nx:Int)] w' (Did A w' σ.tick (.bool false))):=fun w' r=>by
  have hh:=cas_any r (9+key) link nx (by rw[r.nw];omega) hcnt;rw[show ((9+key:Nat):Int)=9+(key:Int) by omega,show σ.cas (9+key) link nx=σ.tick by unfold St.cas;rw[if_neg hok],show (σ.word (9+key)==link)=false by simpa using hok] at hh;exact hh
 have HM:Hid (∀ w',Rep A σ.tick w'→Calls Tryz.prog 159 #[.pointer (some ⟨A.be,0,none⟩),zi (key:Int)] w' (STells A σ.tick w' (headS key))):=fun w' r=>shead_any r key (by omega)
 have HRES:σ.sweepRun (.cut key ahead link nx)=({σ.tick with sw:=headS key},true):=by simp only[St.sweepRun];rw[if_neg (fun h=>h hah),if_neg hok]
 rw[HRES,show headS key=some (.head key) by unfold headS;rw[if_neg (by omega)]];rw[show headS key=some (.head key) by unfold headS;rw[if_neg (by omega)]] at HM;clear hR hcnt hok B0 B1 B2 B3 B4 hsl HRES hah hk;go_enter Tryz.func234,Tryz.ntmps234;go_wp2_with fail
 go_region_held3 (fun w'=>w'.cell? ⟨b0,0,none⟩=some (zu (ahead:Int))∧w'.cell? ⟨b1,0,none⟩=some (.pointer (some ⟨A.be,0,none⟩))∧w'.cell? ⟨b2,0,none⟩=some (zu (nx:Int))∧w'.cell? ⟨b3,0,none⟩=some (zi (key:Int))∧w'.cell? ⟨b4,0,none⟩=some (zu (link:Int))∧w'.cell? ⟨A.be,2,none⟩=some (.pointer (some ⟨A.ba,0,none⟩)))
  (first|exact⟨c0,c1,c2,c3,c4,e2⟩|assumption|go_keep|exact HKK.out _ _ (by assumption) (by assumption))
  (first|(go_at_call 75;refine (HCA.out _ HRd.out).mono ?_;rintro e w1 ⟨rfl,q1,q2⟩;have q4:=HG.out.trans q2;clear q2))
 obtain⟨d0,d1,d2,d3,d4,d5⟩:=HKK.out _ _ q1 q4;have HQ1:=zH q1.drew;have HG1:=zH (q4.trans (Grow.drew _ _));clear q1 q4;go_wp2_with fail
 go_region_held3 (fun w'=>w'.cell? ⟨b0,0,none⟩=some (zu (ahead:Int))∧w'.cell? ⟨b1,0,none⟩=some (.pointer (some ⟨A.be,0,none⟩))∧w'.cell? ⟨b2,0,none⟩=some (zu (nx:Int))∧w'.cell? ⟨b3,0,none⟩=some (zi (key:Int))∧w'.cell? ⟨b4,0,none⟩=some (zu (link:Int))∧w'.cell? ⟨A.be,2,none⟩=some (.pointer (some ⟨A.ba,0,none⟩)))
  (first|exact⟨d0,d1,d2,d3,d4,d5⟩|assumption|go_keep|exact HKK.out _ _ (by assumption) (by assumption)|exact HKS.out _ _ _ (by assumption) (by assumption))
  (first|(go_at_call 159;refine (HM.out _ HQ1.out).mono ?_;rintro e w2 ⟨v,rfl,p1,p2,p3⟩;obtain⟨fv,fb,fc,e3⟩:=SRep.form p3;subst e3;obtain⟨vo,y25⟩:∃ vo,w2.cell? ⟨A.be,25,none⟩=some vo:=⟨_,p1.eng 25 (v:=A.sv σ.tick.sw) rfl⟩;have z25:=p1.engF 25;have q5:=HG1.out.trans p2;have HP:=zH p3;clear p2 p3))
 go_wp2_with fail;go_ret;obtain⟨A',a1,a2,a3,a4,a5⟩:=p1.sweepPut _ _ HP.out;exact⟨rfl,A',a1,a3,q5.trans a4,a5,fun hc=>hc.keep a2 rfl (q5.trans a4)⟩
set_option maxHeartbeats 16000000 in
theorem k_cut_on {A:Book} {σ:St} {w:World} (hR:Rep A σ w) (key ahead link nx:Nat) (hk:key≤63) (hah:ahead=0∧σ.word (9+key)=link∨VL σ ahead) (hck:CutOk A σ.cut) (hln:σ.cut.length<1000000) (hcnt:σ.count<4000000000000000000) (b0 b1 b2 b3 b4:Nat) (B0:Box A.L w b0 (zu (ahead:Int))) (B1:Box A.L w b1 (.pointer (some ⟨A.be,0,none⟩))) (B2:Box A.L w b2 (zu (nx:Int))) (B3:Box A.L w b3 (zi (key:Int))) (B4:Box A.L w b4 (zu (link:Int))):
 Calls Tryz.prog 234 #[.pointer (some ⟨b0,0,none⟩),.pointer (some ⟨b1,0,none⟩),.pointer (some ⟨b2,0,none⟩),.pointer (some ⟨b3,0,none⟩),.pointer (some ⟨b4,0,none⟩)] w (SRan A σ w (σ.sweepRun (.cut key ahead link nx))):=by
 have c0:=B0.cell;have c1:=B1.cell;have c2:=B2.cell;have c3:=B3.cell;have c4:=B4.cell;have e2:w.cell? ⟨A.be,2,none⟩=some (.pointer (some ⟨A.ba,0,none⟩)):=hR.eng 2 rfl;have hsl:=hR.sl;have n1:IntKind.i64.wrap (9+(key:Int))=9+(key:Int):=by rw[IntKind.wrap_i64];omega
 have HRd:Hid (Rep A σ w.drew):=hR.drew;have HG:Hid (Grow A.L w A.L w.drew):=Grow.drew _ _;have HKK:Hid (∀ σ' w',Rep A σ' w'→Grow A.L w A.L w'→w'.cell? ⟨b0,0,none⟩=some (zu (ahead:Int))∧w'.cell? ⟨b1,0,none⟩=some (.pointer (some ⟨A.be,0,none⟩))∧w'.cell? ⟨b2,0,none⟩=some (zu (nx:Int))∧w'.cell? ⟨b3,0,none⟩=some (zi (key:Int))∧w'.cell? ⟨b4,0,none⟩=some (zu (link:Int))∧w'.cell? ⟨A.be,2,none⟩=some (.pointer (some ⟨A.ba,0,none⟩))):=fun σ' w' r g=>⟨(B0.grow g).cell,(B1.grow g).cell,(B2.grow g).cell,(B3.grow g).cell,(B4.grow g).cell,r.eng 2 rfl⟩
 have HK3:Hid (∀ L' w',Grow A.L w L' w'→w'.cell? ⟨b0,0,none⟩=some (zu (ahead:Int))∧w'.cell? ⟨b1,0,none⟩=some (.pointer (some ⟨A.be,0,none⟩))∧w'.cell? ⟨b2,0,none⟩=some (zu (nx:Int))∧w'.cell? ⟨b3,0,none⟩=some (zi (key:Int))∧w'.cell? ⟨b4,0,none⟩=some (zu (link:Int))):=fun L' w' g=>⟨(B0.grow g).cell,(B1.grow g).cell,(B2.grow g).cell,(B3.grow g).cell,(B4.grow g).cell⟩
 obtain⟨av0,n0,c0',hvc⟩:=hck.form
 rcases hah with ⟨hah,hok⟩|hah
 · have f1:((ahead:Int)=0)=True:=by simp;omega
   have f2:((ahead:Int)==0)=true:=by simp;omega
   have f3:((ahead:Int) !=0)=false:=by simp;omega
   have HCA:Hid (∀ w',Rep A σ w'→Calls Tryz.prog 75 #[.pointer (some ⟨A.ba,0,none⟩),zi (9+(key:Int)),zu (link:Int),zu (nx:Int)] w' (Did A w' (σ.put (9+key) nx) (.bool true))):=fun w' r=>by
    have hh:=cas_any r (9+key) link nx (by rw[r.nw];omega) hcnt;rw[show ((9+key:Nat):Int)=9+(key:Int) by omega,show σ.cas (9+key) link nx=σ.put (9+key) nx by unfold St.cas;rw[if_pos hok],show (σ.word (9+key)==link)=true by rw[hok];simp] at hh;exact hh
   have HRES:σ.sweepRun (.cut key ahead link nx)=({σ.put (9+key) nx with cut:=σ.cut++[(link,σ.seq)],cuts:=σ.cuts+1,sw:=visitS key ahead nx},true):=by simp only[St.sweepRun];rw[if_neg (fun h=>h hah),if_pos hok]
   rw[HRES];obtain⟨σp,hσp⟩:∃ σp,σp=σ.put (9+key) nx:=⟨_,rfl⟩
   have HSP:Hid (σp.cut=σ.cut∧σp.seq=σ.seq∧σp.cuts=σ.cuts):=by rw[hσp];exact⟨rfl,rfl,rfl⟩
   have HCK:Hid (CutOk A σp.cut∧σp.cut.length<1000000):=by rw[HSP.out.1];exact⟨hck,hln⟩
   rw[←hσp] at HCA ⊢;clear hR hcnt hok B0 B1 B2 B3 B4 hsl HRES hah hσp hck hln;go_enter Tryz.func234,Tryz.ntmps234;go_wp2_with fail
   go_region_held3 (fun w'=>w'.cell? ⟨b0,0,none⟩=some (zu (ahead:Int))∧w'.cell? ⟨b1,0,none⟩=some (.pointer (some ⟨A.be,0,none⟩))∧w'.cell? ⟨b2,0,none⟩=some (zu (nx:Int))∧w'.cell? ⟨b3,0,none⟩=some (zi (key:Int))∧w'.cell? ⟨b4,0,none⟩=some (zu (link:Int))∧w'.cell? ⟨A.be,2,none⟩=some (.pointer (some ⟨A.ba,0,none⟩)))
    (first|exact⟨c0,c1,c2,c3,c4,e2⟩|assumption|go_keep|exact HKK.out _ _ (by assumption) (by assumption))
    (first|(go_at_call 75;refine (HCA.out _ HRd.out).mono ?_;rintro e w1 ⟨rfl,q1,q2⟩;have q4:=HG.out.trans q2;clear q2))
   obtain⟨d0,d1,d2,d3,d4,d5⟩:=HKK.out _ _ q1 q4;have y27:w1.cell? ⟨A.be,27,none⟩=some (.slice av0 n0 c0'):=(q1.eng 27 rfl).trans (congrArg some hvc);have z27:=q1.engF 27;have y22:w1.cell? ⟨A.be,22,none⟩=some (zi (σ.seq:Int)):=(q1.eng 22 rfl).trans (by rw[HSP.out.2.1]);have HQ:=zH (zA q1 q4);clear q1 q4;go_wp2_with fail;refine wp_region_held_drew (S:=fun w'=>w'.cell? ⟨b1,0,none⟩=some (.pointer (some ⟨A.be,0,none⟩))∧w'.cell? ⟨b4,0,none⟩=some (zu (link:Int))∧w'.cell? ⟨A.be,22,none⟩=some (zi (σ.seq:Int))) (by kernel_rfl) ?_ (fun hHeld=>?_)
   · (try dsimp only);exact⟨d1,d4,y22⟩
   have HQD:=zH (zA HQ.out.1.drew (HQ.out.2.trans (Grow.drew A.L w1)));have y27d:w1.drew.cell? ⟨A.be,27,none⟩=some (.slice av0 n0 c0'):=y27;have z27d:w1.drew.frozen? ⟨A.be,27,none⟩=false:=z27;clear d0 d1 d2 d3 d4 d5 y22 y27 z27 HQ;generalize w1.drew=vd at*;have y27a:∀ ob,(vd.alloc ob).cell? ⟨A.be,27,none⟩=some (.slice av0 n0 c0'):=fun ob=>cell_alloc_keep' y27d
   refine zqt (i:=0) (v:=?_) rfl (by kernel_rfl) (fun _ _ _ h=>h) (Or.inl ⟨by rfl,?_⟩) hHeld ?_;rotate_left
   · (intro w hSw;(try dsimp only at hSw);go_simp;(try with_reducible rfl))
   (try simp only[zqa,zqb,zqc,Act.put,zqd,zqe,zqf])
   refine zqt (i:=1) (v:=?_) rfl (by kernel_rfl) (fun _ _ _ h=>h) (Or.inl ⟨by rfl,?_⟩) hHeld ?_;rotate_left
   · (intro w hSw;(try dsimp only at hSw);go_simp;(try with_reducible rfl))
   (try simp only[zqa,zqb,zqc,Act.put,zqd,zqe,zqf])
   refine zqt (i:=2) (v:=?_) rfl (by kernel_rfl) (fun _ _ _ h=>h) (Or.inl ⟨by rfl,?_⟩) hHeld ?_;rotate_left
   · (intro w hSw;(try dsimp only at hSw);go_simp;(try with_reducible rfl))
   (try simp only[zqa,zqb,zqc,Act.put,zqd,zqe,zqf])
   refine zqt (i:=3) (v:=?_) rfl (by kernel_rfl) (fun _ _ _ h=>h) (Or.inl ⟨by rfl,?_⟩) hHeld ?_;rotate_left
   · (intro w hSw;(try dsimp only at hSw);go_simp;(try with_reducible rfl))
   (try simp only[zqa,zqb,zqc,Act.put,zqd,zqe,zqf])
   refine zqt (i:=4) (v:=?_) rfl (by kernel_rfl) (fun _ _ _ h=>h) (Or.inl ⟨by rfl,?_⟩) hHeld ?_;rotate_left
   · (intro w hSw;(try dsimp only at hSw);go_simp;(try with_reducible rfl))
   (try simp only[zqa,zqb,zqc,Act.put,zqd,zqe,zqf])
   refine zqt (i:=6) (v:=?_) rfl (by kernel_rfl) (fun _ _ _ h=>h) (Or.inl ⟨by rfl,?_⟩) hHeld ?_;rotate_left
   · (intro w hSw;(try dsimp only at hSw);go_simp;(try with_reducible rfl))
   (try simp only[zqa,zqb,zqc,Act.put,zqd,zqe,zqf])
   refine zqt (i:=7) (v:=?_) rfl (by kernel_rfl) (fun _ _ _ h=>h) (Or.inl ⟨by rfl,?_⟩) hHeld ?_;rotate_left
   · (intro w hSw;(try dsimp only at hSw);go_simp;(try with_reducible rfl))
   (try simp only[zqa,zqb,zqc,Act.put,zqd,zqe,zqf])
   refine zqt (i:=8) (v:=?_) rfl (by kernel_rfl) (fun _ _ _ h=>h) (Or.inl ⟨by rfl,?_⟩) hHeld ?_;rotate_left
   · (intro w hSw;(try dsimp only at hSw);go_simp;(try with_reducible rfl))
   (try simp only[zqa,zqb,zqc,Act.put,zqd,zqe,zqf])
   refine zqt (i:=9) (v:=?_) rfl (by kernel_rfl) (fun _ _ _ h=>h) (Or.inl ⟨by rfl,?_⟩) hHeld ?_;rotate_left
   · (intro w hSw;(try dsimp only at hSw);go_simp;(try with_reducible rfl))
   (try simp only[zqa,zqb,zqc,Act.put,zqd,zqe,zqf])
   refine zqt (i:=10) (v:=?_) rfl (by kernel_rfl) (fun _ _ _ h=>h) (Or.inl ⟨by rfl,?_⟩) hHeld ?_;rotate_left
   · (intro w hSw;(try dsimp only at hSw);go_simp;(try with_reducible rfl))
   (try simp only[zqa,zqb,zqc,Act.put,zqd,zqe,zqf])
   refine zqt (i:=11) (v:=?_) rfl (by kernel_rfl) (fun _ _ _ h=>h) (Or.inl ⟨by rfl,?_⟩) hHeld ?_;rotate_left
   · (intro w hSw;(try dsimp only at hSw);go_simp;(try with_reducible rfl))
   (try simp only[zqa,zqb,zqc,Act.put,zqd,zqe,zqf])
   refine wpAnyH_ready (rs:=[5,12]) (by kernel_rfl) (by simp) ?_;refine AllReadyH.cons (o:=_) rfl (fun K hK=>?_) (AllReadyH.cons (o:=_) rfl (fun K hK=>?_) AllReadyH.nil)
   focus (
    go_simp
    refine hK.out _ _ ?_ (fun hHeld=>?_)
    · (try dsimp only);exact hHeld
    clear hK K
    (try simp only[zqa,zqb,zqc,Act.put,zqd,zqe,zqf])
    refine wpAnyH_ready (rs:=[12]) (by kernel_rfl) (by simp) ?_
    refine AllReadyH.cons (o:=_) rfl (fun K hK=>?_) AllReadyH.nil
    go_simp
    refine hK.out _ _ ?_ (fun hHeld=>?_)
    · (try dsimp only);exact⟨cell_alloc_keep' hHeld.1,cell_alloc_keep' hHeld.2.1,cell_alloc_keep' hHeld.2.2⟩
    clear hK K
    (try simp only[zqa,zqb,zqc,Act.put,zqd,zqe,zqf])
   )
   rotate_left
   focus (
    go_simp
    refine hK.out _ _ ?_ (fun hHeld=>?_)
    · (try dsimp only);exact⟨cell_alloc_keep' hHeld.1,cell_alloc_keep' hHeld.2.1,cell_alloc_keep' hHeld.2.2⟩
    clear hK K
    (try simp only[zqa,zqb,zqc,Act.put,zqd,zqe,zqf])
    refine wpAnyH_ready (rs:=[5]) (by kernel_rfl) (by simp) ?_
    refine AllReadyH.cons (o:=_) rfl (fun K hK=>?_) AllReadyH.nil
    go_simp
    refine hK.out _ _ ?_ (fun hHeld=>?_)
    · (try dsimp only);exact hHeld
    clear hK K
    (try simp only[zqa,zqb,zqc,Act.put,zqd,zqe,zqf])
   )
   rotate_left
   all_goals (
    refine wpAnyH_ready (rs:=[13]) (by kernel_rfl) (by simp) ?_
    refine AllReadyH.cons (o:=_) rfl (fun K hK=>?_) AllReadyH.nil
    rw[if_pos (by rfl)]
    refine wp_cutN vd (vd.alloc (.cells #[zu (link:Int),zi (σ.seq:Int)] 230)) (.tmp 38) (.tmp 45) rfl HQD.out.1 HCK.out.1 HCK.out.2 (.slice av0 n0 c0') hvc.symm rfl (link,σ.seq) rfl rfl ?_;intro avl nl capl wl hon;obtain⟨L2,hc2,g2',cs2,av2,cap2,eon,rl,gl,ckl⟩:=hon;have y27l:wl.cell? ⟨A.be,27,none⟩=some (.slice av0 n0 c0'):=(rl.eng 27 rfl).trans (congrArg some hvc);have z27l:wl.frozen? ⟨A.be,27,none⟩=false:=rl.engF 27;have t1:=(HK3.out _ _ (HQD.out.2.trans gl)).2.1;have t4:=(HK3.out _ _ (HQD.out.2.trans gl)).2.2.2.2;have t22:wl.cell? ⟨A.be,22,none⟩=some (zi (σ.seq:Int)):=(rl.eng 22 rfl).trans (by rw[HSP.out.2.1]);have HQL:=zH (zA rl (zA (HQD.out.2.trans gl) (by rw[HSP.out.1] at ckl;exact ckl)));clear eon gl ckl;have HST5:Hid ((wl.setCell ⟨A.be,27,none⟩ (.slice avl nl capl)).cell? ⟨b1,0,none⟩=some (.pointer (some ⟨A.be,0,none⟩))∧(wl.setCell ⟨A.be,27,none⟩ (.slice avl nl capl)).cell? ⟨b4,0,none⟩=some (zu (link:Int))∧(wl.setCell ⟨A.be,27,none⟩ (.slice avl nl capl)).cell? ⟨A.be,22,none⟩=some (zi (σ.seq:Int))):=⟨(HK3.out _ _ (HQL.out.2.1.trans (rl.cutSet (.slice avl nl capl) [] 0).2)).2.1,(HK3.out _ _ (HQL.out.2.1.trans (rl.cutSet (.slice avl nl capl) [] 0).2)).2.2.2.2,by rw[World.cell?_setCell_other _ _ _ _ (by simp)];exact t22⟩;clear rl
    refine hK.out _ _ ?_ (fun hHeld=>?_)
    · (try dsimp only);exact⟨t1,t4,t22⟩
    clear hK K
    (try simp only[zqa,zqb,zqc,Act.put,zqd,zqe,zqf])
    refine zqt (i:=14) (v:=?_) rfl (by kernel_rfl) (fun _ _ _ h=>h) (Or.inl ⟨by rfl,?_⟩) hHeld ?_
    rotate_left
    · (intro w hSw;(try dsimp only at hSw);go_simp;(try with_reducible rfl))
    (try simp only[zqa,zqb,zqc,Act.put,zqd,zqe,zqf])
    refine zqt (i:=15) (v:=?_) rfl (by kernel_rfl) (fun _ _ _ h=>h) (Or.inl ⟨by rfl,?_⟩) hHeld ?_
    rotate_left
    · (intro w hSw;(try dsimp only at hSw);go_simp;(try with_reducible rfl))
    (try simp only[zqa,zqb,zqc,Act.put,zqd,zqe,zqf])
    refine zqt (i:=16) (v:=?_) rfl (by kernel_rfl) (fun _ _ _ h=>h) (Or.inl ⟨by rfl,?_⟩) hHeld ?_
    rotate_left
    · (intro w hSw;(try dsimp only at hSw);go_simp;(try with_reducible rfl))
    (try simp only[zqa,zqb,zqc,Act.put,zqd,zqe,zqf])
    refine wpAnyH_ready (rs:=[17]) (by kernel_rfl) (by simp) ?_
    refine AllReadyH.cons (o:=_) rfl (fun K hK=>?_) AllReadyH.nil
    go_simp
    refine hK.out _ _ ?_ (fun hHeld=>?_)
    · (try dsimp only);exact HST5.out
    clear hK K
    (try simp only[zqa,zqb,zqc,Act.put,zqd,zqe,zqf])
    refine wpAnyH_done (by kernel_rfl) ?_ _
   )
   all_goals (
    clear t1 t4 t22 hHeld y27d z27d y27a
    obtain⟨hon1,hon2,hon3⟩:=HQL.out
    obtain⟨r5,g5⟩:=hon1.cutSet (.slice avl nl capl) (σ.cut++[(link,σ.seq)]) (σ.cuts+1)
    obtain⟨A2,hA2⟩:∃ A2:Book,A2={A with L:=L2,hcut:=hc2,gcut:=g2',cutCs:=cs2,vcut:=.slice avl nl capl}:=⟨_,rfl⟩
    have e2be:A2.be=A.be:=by rw[hA2]
    have e2L:A2.L=L2:=by rw[hA2]
    have hso:SOnly A A2:=by rw[hA2];exact⟨⟨_,_,_,_,_,_,_,_,rfl⟩,rfl⟩
    have hck:CutOk A2 (σ.cut++[(link,σ.seq)]):=by rw[hA2];exact hon3
    replace r5:Rep A2 {σp with cut:=σ.cut++[(link,σ.seq)],cuts:=σ.cuts+1} (wl.setCell ⟨A.be,27,none⟩ (.slice avl nl capl)):=by rw[hA2];exact r5
    generalize hw5:wl.setCell ⟨A.be,27,none⟩ (.slice avl nl capl)=w5 at*
    have hg5:Grow A.L w A2.L w5:=by rw[e2L];exact hon2.trans g5
    have HF5:=zH (zA hso (zA e2be hck))
    have hM:=svisit_any r5.drew key ahead nx hk
    rw[e2be] at hM
    have HM:=zH hM
    clear hM hk hA2 hso hck hon1 hon2 hon3 g5 HQL y27l z27l
    have HKK2:Hid (∀ σ' w',Rep A2 σ' w'→Grow A.L w A2.L w'→w'.cell? ⟨b0,0,none⟩=some (zu (ahead:Int))∧w'.cell? ⟨b1,0,none⟩=some (.pointer (some ⟨A.be,0,none⟩))∧w'.cell? ⟨b2,0,none⟩=some (zu (nx:Int))∧w'.cell? ⟨b3,0,none⟩=some (zi (key:Int))∧w'.cell? ⟨b4,0,none⟩=some (zu (link:Int))):=fun σ' w' r g=>HK3.out _ w' g
    have HKS2:Hid (∀ σ' w' x,Rep A2 σ' w'→Grow A.L w A2.L w'→(w'.setCell ⟨A.be,25,none⟩ x).cell? ⟨b0,0,none⟩=some (zu (ahead:Int))∧(w'.setCell ⟨A.be,25,none⟩ x).cell? ⟨b1,0,none⟩=some (.pointer (some ⟨A.be,0,none⟩))∧(w'.setCell ⟨A.be,25,none⟩ x).cell? ⟨b2,0,none⟩=some (zu (nx:Int))∧(w'.setCell ⟨A.be,25,none⟩ x).cell? ⟨b3,0,none⟩=some (zi (key:Int))∧(w'.setCell ⟨A.be,25,none⟩ x).cell? ⟨b4,0,none⟩=some (zu (link:Int))):=fun σ' w' x r g=>by
     have h:=(r.sweepSet x .now).2
     rw[e2be] at h
     exact HK3.out _ _ (g.trans h)
    obtain⟨g0,g1,g2,g3,g4⟩:=HKK2.out _ _ r5 hg5
    have HG5:=zH (hg5.trans (Grow.drew A2.L w5))
    clear hg5 r5
    cases hkk:visitS key ahead nx with
    |none=>
     rw[hkk] at HM
     go_wp2_with fail
     go_region_held3 (fun w'=>w'.cell? ⟨b0,0,none⟩=some (zu (ahead:Int))∧w'.cell? ⟨b1,0,none⟩=some (.pointer (some ⟨A.be,0,none⟩))∧w'.cell? ⟨b2,0,none⟩=some (zu (nx:Int))∧w'.cell? ⟨b3,0,none⟩=some (zi (key:Int))∧w'.cell? ⟨b4,0,none⟩=some (zu (link:Int)))
      (first|exact⟨g0,g1,g2,g3,g4⟩|assumption|go_keep|exact HKK2.out _ _ (by assumption) (by assumption)|exact HKS2.out _ _ _ (by assumption) (by assumption))
      (first|(go_at_call 179;refine HM.out.mono ?_;rintro e w2 ⟨v,rfl,p1,p2,p3⟩;have e3:v=.nilFunc:=p3;subst e3;have z25:=p1.engF 25;obtain⟨vo,y25⟩:∃ vo,w2.cell? ⟨A2.be,25,none⟩=some vo:=⟨_,p1.eng 25 rfl⟩;rw[HF5.out.2.1] at z25 y25;have q5:=HG5.out.trans p2;have HP:=zH p3;have HPG:=zH p2;clear p2 p3))
     go_wp2_with fail
     go_ret
     obtain⟨k1,k2,k3⟩:=HF5.out
     obtain⟨A',a1,a2,a3,a4,a5⟩:=p1.sweepPut _ _ HP.out
     rw[k2] at a3 a4 a5
     rw[hkk]
     exact⟨rfl,A',k1.trans a1,a3,q5.trans a4,a5,fun _=>CRow.keep (A:=A2) (σ:={σp with cut:=σ.cut++[(link,σ.seq)],cuts:=σ.cuts+1}) (w:=w5) k3 a2 rfl (((Grow.drew A2.L w5).trans HPG.out).trans a4)⟩
    |some kx=>
     rw[hkk] at HM
     go_wp2_with fail
     go_region_held3 (fun w'=>w'.cell? ⟨b0,0,none⟩=some (zu (ahead:Int))∧w'.cell? ⟨b1,0,none⟩=some (.pointer (some ⟨A.be,0,none⟩))∧w'.cell? ⟨b2,0,none⟩=some (zu (nx:Int))∧w'.cell? ⟨b3,0,none⟩=some (zi (key:Int))∧w'.cell? ⟨b4,0,none⟩=some (zu (link:Int)))
      (first|exact⟨g0,g1,g2,g3,g4⟩|assumption|go_keep|exact HKK2.out _ _ (by assumption) (by assumption)|exact HKS2.out _ _ _ (by assumption) (by assumption))
      (first|(go_at_call 179;refine HM.out.mono ?_;rintro e w2 ⟨v,rfl,p1,p2,p3⟩;obtain⟨fv,fb,fc,e3⟩:=SRep.form p3;subst e3;have z25:=p1.engF 25;obtain⟨vo,y25⟩:∃ vo,w2.cell? ⟨A2.be,25,none⟩=some vo:=⟨_,p1.eng 25 rfl⟩;rw[HF5.out.2.1] at z25 y25;have q5:=HG5.out.trans p2;have HP:=zH p3;have HPG:=zH p2;clear p2 p3))
     go_wp2_with fail
     go_ret
     obtain⟨k1,k2,k3⟩:=HF5.out
     obtain⟨A',a1,a2,a3,a4,a5⟩:=p1.sweepPut _ _ HP.out
     rw[k2] at a3 a4 a5
     rw[hkk]
     exact⟨rfl,A',k1.trans a1,a3,q5.trans a4,a5,fun _=>CRow.keep (A:=A2) (σ:={σp with cut:=σ.cut++[(link,σ.seq)],cuts:=σ.cuts+1}) (w:=w5) k3 a2 rfl (((Grow.drew A2.L w5).trans HPG.out).trans a4)⟩
   )
 · have f1:((ahead:Int)=0)=False:=by have:=hah.lo;simp;rintro rfl;omega
   have f2:((ahead:Int)==0)=false:=by have:=hah.lo;simp;rintro rfl;omega
   have f3:((ahead:Int) !=0)=true:=by have:=hah.lo;simp;rintro rfl;omega
   have f4:(ahead=0)=False:=by have:=hah.lo;simp;rintro rfl;omega
   have f5:ahead≠0:=by rw[ne_eq,f4];exact not_false
   have HS:=zH (slot_at ahead 2 2 rfl hah.lo (by have:=hah.hi;omega) hah.u (by omega));have HST:Hid (∀ w',Rep A σ w'→Calls Tryz.prog 77 #[.pointer (some ⟨A.ba,0,none⟩),zi ((wslot ahead 2:Nat):Int),zu (nx:Int)] w' (Did A w' (σ.put (wslot ahead 2) nx) (.tuple #[]))):=fun w' r=>store_any r (wslot ahead 2) nx (wslot_lt r hah.lo hah.hi (by omega)) hcnt
   have HRES:σ.sweepRun (.cut key ahead link nx)=({σ.put (wslot ahead 2) nx with cut:=σ.cut++[(link,σ.seq)],cuts:=σ.cuts+1,sw:=visitS key ahead nx},true):=by simp only[St.sweepRun];rw[if_pos f5]
   rw[HRES];obtain⟨σp,hσp⟩:∃ σp,σp=σ.put (wslot ahead 2) nx:=⟨_,rfl⟩
   have HSP:Hid (σp.cut=σ.cut∧σp.seq=σ.seq∧σp.cuts=σ.cuts):=by rw[hσp];exact⟨rfl,rfl,rfl⟩
   have HCK:Hid (CutOk A σp.cut∧σp.cut.length<1000000):=by rw[HSP.out.1];exact⟨hck,hln⟩
   rw[←hσp] at HST ⊢;clear hR hcnt B0 B1 B2 B3 B4 hsl HRES hah hσp hck hln f5;generalize ((wslot ahead 2:Nat):Int)=ix at*;go_enter Tryz.func234,Tryz.ntmps234;go_wp2_with fail
   go_region_held3 (fun w'=>w'.cell? ⟨b0,0,none⟩=some (zu (ahead:Int))∧w'.cell? ⟨b1,0,none⟩=some (.pointer (some ⟨A.be,0,none⟩))∧w'.cell? ⟨b2,0,none⟩=some (zu (nx:Int))∧w'.cell? ⟨b3,0,none⟩=some (zi (key:Int))∧w'.cell? ⟨b4,0,none⟩=some (zu (link:Int))∧w'.cell? ⟨A.be,2,none⟩=some (.pointer (some ⟨A.ba,0,none⟩)))
    (first|exact⟨c0,c1,c2,c3,c4,e2⟩|assumption|go_keep|exact HKK.out _ _ (by assumption) (by assumption))
    (first|(go_at_call 62;refine (HS.out _).mono ?_;rintro e w9 ⟨rfl,rfl⟩)|(go_at_call 77;refine (HST.out _ HRd.out).mono ?_;rintro e w1 ⟨rfl,q1,q2⟩;have q4:=HG.out.trans q2;clear q2))
   obtain⟨d0,d1,d2,d3,d4,d5⟩:=HKK.out _ _ q1 q4;have y27:w1.cell? ⟨A.be,27,none⟩=some (.slice av0 n0 c0'):=(q1.eng 27 rfl).trans (congrArg some hvc);have z27:=q1.engF 27;have y22:w1.cell? ⟨A.be,22,none⟩=some (zi (σ.seq:Int)):=(q1.eng 22 rfl).trans (by rw[HSP.out.2.1]);have HQ:=zH (zA q1 q4);clear q1 q4;go_wp2_with fail;refine wp_region_held_drew (S:=fun w'=>w'.cell? ⟨b1,0,none⟩=some (.pointer (some ⟨A.be,0,none⟩))∧w'.cell? ⟨b4,0,none⟩=some (zu (link:Int))∧w'.cell? ⟨A.be,22,none⟩=some (zi (σ.seq:Int))) (by kernel_rfl) ?_ (fun hHeld=>?_)
   · (try dsimp only);exact⟨d1,d4,y22⟩
   have HQD:=zH (zA HQ.out.1.drew (HQ.out.2.trans (Grow.drew A.L w1)));have y27d:w1.drew.cell? ⟨A.be,27,none⟩=some (.slice av0 n0 c0'):=y27;have z27d:w1.drew.frozen? ⟨A.be,27,none⟩=false:=z27;clear d0 d1 d2 d3 d4 d5 y22 y27 z27 HQ;generalize w1.drew=vd at*;have y27a:∀ ob,(vd.alloc ob).cell? ⟨A.be,27,none⟩=some (.slice av0 n0 c0'):=fun ob=>cell_alloc_keep' y27d
   refine zqt (i:=0) (v:=?_) rfl (by kernel_rfl) (fun _ _ _ h=>h) (Or.inl ⟨by rfl,?_⟩) hHeld ?_;rotate_left
   · (intro w hSw;(try dsimp only at hSw);go_simp;(try with_reducible rfl))
   (try simp only[zqa,zqb,zqc,Act.put,zqd,zqe,zqf])
   refine zqt (i:=1) (v:=?_) rfl (by kernel_rfl) (fun _ _ _ h=>h) (Or.inl ⟨by rfl,?_⟩) hHeld ?_;rotate_left
   · (intro w hSw;(try dsimp only at hSw);go_simp;(try with_reducible rfl))
   (try simp only[zqa,zqb,zqc,Act.put,zqd,zqe,zqf])
   refine zqt (i:=2) (v:=?_) rfl (by kernel_rfl) (fun _ _ _ h=>h) (Or.inl ⟨by rfl,?_⟩) hHeld ?_;rotate_left
   · (intro w hSw;(try dsimp only at hSw);go_simp;(try with_reducible rfl))
   (try simp only[zqa,zqb,zqc,Act.put,zqd,zqe,zqf])
   refine zqt (i:=3) (v:=?_) rfl (by kernel_rfl) (fun _ _ _ h=>h) (Or.inl ⟨by rfl,?_⟩) hHeld ?_;rotate_left
   · (intro w hSw;(try dsimp only at hSw);go_simp;(try with_reducible rfl))
   (try simp only[zqa,zqb,zqc,Act.put,zqd,zqe,zqf])
   refine zqt (i:=4) (v:=?_) rfl (by kernel_rfl) (fun _ _ _ h=>h) (Or.inl ⟨by rfl,?_⟩) hHeld ?_;rotate_left
   · (intro w hSw;(try dsimp only at hSw);go_simp;(try with_reducible rfl))
   (try simp only[zqa,zqb,zqc,Act.put,zqd,zqe,zqf])
   refine zqt (i:=6) (v:=?_) rfl (by kernel_rfl) (fun _ _ _ h=>h) (Or.inl ⟨by rfl,?_⟩) hHeld ?_;rotate_left
   · (intro w hSw;(try dsimp only at hSw);go_simp;(try with_reducible rfl))
   (try simp only[zqa,zqb,zqc,Act.put,zqd,zqe,zqf])
   refine zqt (i:=7) (v:=?_) rfl (by kernel_rfl) (fun _ _ _ h=>h) (Or.inl ⟨by rfl,?_⟩) hHeld ?_;rotate_left
   · (intro w hSw;(try dsimp only at hSw);go_simp;(try with_reducible rfl))
   (try simp only[zqa,zqb,zqc,Act.put,zqd,zqe,zqf])
   refine zqt (i:=8) (v:=?_) rfl (by kernel_rfl) (fun _ _ _ h=>h) (Or.inl ⟨by rfl,?_⟩) hHeld ?_;rotate_left
   · (intro w hSw;(try dsimp only at hSw);go_simp;(try with_reducible rfl))
   (try simp only[zqa,zqb,zqc,Act.put,zqd,zqe,zqf])
   refine zqt (i:=9) (v:=?_) rfl (by kernel_rfl) (fun _ _ _ h=>h) (Or.inl ⟨by rfl,?_⟩) hHeld ?_;rotate_left
   · (intro w hSw;(try dsimp only at hSw);go_simp;(try with_reducible rfl))
   (try simp only[zqa,zqb,zqc,Act.put,zqd,zqe,zqf])
   refine zqt (i:=10) (v:=?_) rfl (by kernel_rfl) (fun _ _ _ h=>h) (Or.inl ⟨by rfl,?_⟩) hHeld ?_;rotate_left
   · (intro w hSw;(try dsimp only at hSw);go_simp;(try with_reducible rfl))
   (try simp only[zqa,zqb,zqc,Act.put,zqd,zqe,zqf])
   refine zqt (i:=11) (v:=?_) rfl (by kernel_rfl) (fun _ _ _ h=>h) (Or.inl ⟨by rfl,?_⟩) hHeld ?_;rotate_left
   · (intro w hSw;(try dsimp only at hSw);go_simp;(try with_reducible rfl))
   (try simp only[zqa,zqb,zqc,Act.put,zqd,zqe,zqf])
   refine wpAnyH_ready (rs:=[5,12]) (by kernel_rfl) (by simp) ?_;refine AllReadyH.cons (o:=_) rfl (fun K hK=>?_) (AllReadyH.cons (o:=_) rfl (fun K hK=>?_) AllReadyH.nil)
   focus (
    go_simp
    refine hK.out _ _ ?_ (fun hHeld=>?_)
    · (try dsimp only);exact hHeld
    clear hK K
    (try simp only[zqa,zqb,zqc,Act.put,zqd,zqe,zqf])
    refine wpAnyH_ready (rs:=[12]) (by kernel_rfl) (by simp) ?_
    refine AllReadyH.cons (o:=_) rfl (fun K hK=>?_) AllReadyH.nil
    go_simp
    refine hK.out _ _ ?_ (fun hHeld=>?_)
    · (try dsimp only);exact⟨cell_alloc_keep' hHeld.1,cell_alloc_keep' hHeld.2.1,cell_alloc_keep' hHeld.2.2⟩
    clear hK K
    (try simp only[zqa,zqb,zqc,Act.put,zqd,zqe,zqf])
   )
   rotate_left
   focus (
    go_simp
    refine hK.out _ _ ?_ (fun hHeld=>?_)
    · (try dsimp only);exact⟨cell_alloc_keep' hHeld.1,cell_alloc_keep' hHeld.2.1,cell_alloc_keep' hHeld.2.2⟩
    clear hK K
    (try simp only[zqa,zqb,zqc,Act.put,zqd,zqe,zqf])
    refine wpAnyH_ready (rs:=[5]) (by kernel_rfl) (by simp) ?_
    refine AllReadyH.cons (o:=_) rfl (fun K hK=>?_) AllReadyH.nil
    go_simp
    refine hK.out _ _ ?_ (fun hHeld=>?_)
    · (try dsimp only);exact hHeld
    clear hK K
    (try simp only[zqa,zqb,zqc,Act.put,zqd,zqe,zqf])
   )
   rotate_left
   all_goals (
    refine wpAnyH_ready (rs:=[13]) (by kernel_rfl) (by simp) ?_
    refine AllReadyH.cons (o:=_) rfl (fun K hK=>?_) AllReadyH.nil
    rw[if_pos (by rfl)]
    refine wp_cutN vd (vd.alloc (.cells #[zu (link:Int),zi (σ.seq:Int)] 230)) (.tmp 38) (.tmp 45) rfl HQD.out.1 HCK.out.1 HCK.out.2 (.slice av0 n0 c0') hvc.symm rfl (link,σ.seq) rfl rfl ?_;intro avl nl capl wl hon;obtain⟨L2,hc2,g2',cs2,av2,cap2,eon,rl,gl,ckl⟩:=hon;have y27l:wl.cell? ⟨A.be,27,none⟩=some (.slice av0 n0 c0'):=(rl.eng 27 rfl).trans (congrArg some hvc);have z27l:wl.frozen? ⟨A.be,27,none⟩=false:=rl.engF 27;have t1:=(HK3.out _ _ (HQD.out.2.trans gl)).2.1;have t4:=(HK3.out _ _ (HQD.out.2.trans gl)).2.2.2.2;have t22:wl.cell? ⟨A.be,22,none⟩=some (zi (σ.seq:Int)):=(rl.eng 22 rfl).trans (by rw[HSP.out.2.1]);have HQL:=zH (zA rl (zA (HQD.out.2.trans gl) (by rw[HSP.out.1] at ckl;exact ckl)));clear eon gl ckl;have HST5:Hid ((wl.setCell ⟨A.be,27,none⟩ (.slice avl nl capl)).cell? ⟨b1,0,none⟩=some (.pointer (some ⟨A.be,0,none⟩))∧(wl.setCell ⟨A.be,27,none⟩ (.slice avl nl capl)).cell? ⟨b4,0,none⟩=some (zu (link:Int))∧(wl.setCell ⟨A.be,27,none⟩ (.slice avl nl capl)).cell? ⟨A.be,22,none⟩=some (zi (σ.seq:Int))):=⟨(HK3.out _ _ (HQL.out.2.1.trans (rl.cutSet (.slice avl nl capl) [] 0).2)).2.1,(HK3.out _ _ (HQL.out.2.1.trans (rl.cutSet (.slice avl nl capl) [] 0).2)).2.2.2.2,by rw[World.cell?_setCell_other _ _ _ _ (by simp)];exact t22⟩;clear rl
    refine hK.out _ _ ?_ (fun hHeld=>?_)
    · (try dsimp only);exact⟨t1,t4,t22⟩
    clear hK K
    (try simp only[zqa,zqb,zqc,Act.put,zqd,zqe,zqf])
    refine zqt (i:=14) (v:=?_) rfl (by kernel_rfl) (fun _ _ _ h=>h) (Or.inl ⟨by rfl,?_⟩) hHeld ?_
    rotate_left
    · (intro w hSw;(try dsimp only at hSw);go_simp;(try with_reducible rfl))
    (try simp only[zqa,zqb,zqc,Act.put,zqd,zqe,zqf])
    refine zqt (i:=15) (v:=?_) rfl (by kernel_rfl) (fun _ _ _ h=>h) (Or.inl ⟨by rfl,?_⟩) hHeld ?_
    rotate_left
    · (intro w hSw;(try dsimp only at hSw);go_simp;(try with_reducible rfl))
    (try simp only[zqa,zqb,zqc,Act.put,zqd,zqe,zqf])
    refine zqt (i:=16) (v:=?_) rfl (by kernel_rfl) (fun _ _ _ h=>h) (Or.inl ⟨by rfl,?_⟩) hHeld ?_
    rotate_left
    · (intro w hSw;(try dsimp only at hSw);go_simp;(try with_reducible rfl))
    (try simp only[zqa,zqb,zqc,Act.put,zqd,zqe,zqf])
    refine wpAnyH_ready (rs:=[17]) (by kernel_rfl) (by simp) ?_
    refine AllReadyH.cons (o:=_) rfl (fun K hK=>?_) AllReadyH.nil
    go_simp
    refine hK.out _ _ ?_ (fun hHeld=>?_)
    · (try dsimp only);exact HST5.out
    clear hK K
    (try simp only[zqa,zqb,zqc,Act.put,zqd,zqe,zqf])
    refine wpAnyH_done (by kernel_rfl) ?_ _
   )
   all_goals (
    clear t1 t4 t22 hHeld y27d z27d y27a
    obtain⟨hon1,hon2,hon3⟩:=HQL.out
    obtain⟨r5,g5⟩:=hon1.cutSet (.slice avl nl capl) (σ.cut++[(link,σ.seq)]) (σ.cuts+1)
    obtain⟨A2,hA2⟩:∃ A2:Book,A2={A with L:=L2,hcut:=hc2,gcut:=g2',cutCs:=cs2,vcut:=.slice avl nl capl}:=⟨_,rfl⟩
    have e2be:A2.be=A.be:=by rw[hA2]
    have e2L:A2.L=L2:=by rw[hA2]
    have hso:SOnly A A2:=by rw[hA2];exact⟨⟨_,_,_,_,_,_,_,_,rfl⟩,rfl⟩
    have hck:CutOk A2 (σ.cut++[(link,σ.seq)]):=by rw[hA2];exact hon3
    replace r5:Rep A2 {σp with cut:=σ.cut++[(link,σ.seq)],cuts:=σ.cuts+1} (wl.setCell ⟨A.be,27,none⟩ (.slice avl nl capl)):=by rw[hA2];exact r5
    generalize hw5:wl.setCell ⟨A.be,27,none⟩ (.slice avl nl capl)=w5 at*
    have hg5:Grow A.L w A2.L w5:=by rw[e2L];exact hon2.trans g5
    have HF5:=zH (zA hso (zA e2be hck))
    have hM:=svisit_any r5.drew key ahead nx hk
    rw[e2be] at hM
    have HM:=zH hM
    clear hM hk hA2 hso hck hon1 hon2 hon3 g5 HQL y27l z27l
    have HKK2:Hid (∀ σ' w',Rep A2 σ' w'→Grow A.L w A2.L w'→w'.cell? ⟨b0,0,none⟩=some (zu (ahead:Int))∧w'.cell? ⟨b1,0,none⟩=some (.pointer (some ⟨A.be,0,none⟩))∧w'.cell? ⟨b2,0,none⟩=some (zu (nx:Int))∧w'.cell? ⟨b3,0,none⟩=some (zi (key:Int))∧w'.cell? ⟨b4,0,none⟩=some (zu (link:Int))):=fun σ' w' r g=>HK3.out _ w' g
    have HKS2:Hid (∀ σ' w' x,Rep A2 σ' w'→Grow A.L w A2.L w'→(w'.setCell ⟨A.be,25,none⟩ x).cell? ⟨b0,0,none⟩=some (zu (ahead:Int))∧(w'.setCell ⟨A.be,25,none⟩ x).cell? ⟨b1,0,none⟩=some (.pointer (some ⟨A.be,0,none⟩))∧(w'.setCell ⟨A.be,25,none⟩ x).cell? ⟨b2,0,none⟩=some (zu (nx:Int))∧(w'.setCell ⟨A.be,25,none⟩ x).cell? ⟨b3,0,none⟩=some (zi (key:Int))∧(w'.setCell ⟨A.be,25,none⟩ x).cell? ⟨b4,0,none⟩=some (zu (link:Int))):=fun σ' w' x r g=>by
     have h:=(r.sweepSet x .now).2
     rw[e2be] at h
     exact HK3.out _ _ (g.trans h)
    obtain⟨g0,g1,g2,g3,g4⟩:=HKK2.out _ _ r5 hg5
    have HG5:=zH (hg5.trans (Grow.drew A2.L w5))
    clear hg5 r5
    cases hkk:visitS key ahead nx with
    |none=>
     rw[hkk] at HM
     go_wp2_with fail
     go_region_held3 (fun w'=>w'.cell? ⟨b0,0,none⟩=some (zu (ahead:Int))∧w'.cell? ⟨b1,0,none⟩=some (.pointer (some ⟨A.be,0,none⟩))∧w'.cell? ⟨b2,0,none⟩=some (zu (nx:Int))∧w'.cell? ⟨b3,0,none⟩=some (zi (key:Int))∧w'.cell? ⟨b4,0,none⟩=some (zu (link:Int)))
      (first|exact⟨g0,g1,g2,g3,g4⟩|assumption|go_keep|exact HKK2.out _ _ (by assumption) (by assumption)|exact HKS2.out _ _ _ (by assumption) (by assumption))
      (first|(go_at_call 179;refine HM.out.mono ?_;rintro e w2 ⟨v,rfl,p1,p2,p3⟩;have e3:v=.nilFunc:=p3;subst e3;have z25:=p1.engF 25;obtain⟨vo,y25⟩:∃ vo,w2.cell? ⟨A2.be,25,none⟩=some vo:=⟨_,p1.eng 25 rfl⟩;rw[HF5.out.2.1] at z25 y25;have q5:=HG5.out.trans p2;have HP:=zH p3;have HPG:=zH p2;clear p2 p3))
     go_wp2_with fail
     go_ret
     obtain⟨k1,k2,k3⟩:=HF5.out
     obtain⟨A',a1,a2,a3,a4,a5⟩:=p1.sweepPut _ _ HP.out
     rw[k2] at a3 a4 a5
     rw[hkk]
     exact⟨rfl,A',k1.trans a1,a3,q5.trans a4,a5,fun _=>CRow.keep (A:=A2) (σ:={σp with cut:=σ.cut++[(link,σ.seq)],cuts:=σ.cuts+1}) (w:=w5) k3 a2 rfl (((Grow.drew A2.L w5).trans HPG.out).trans a4)⟩
    |some kx=>
     rw[hkk] at HM
     go_wp2_with fail
     go_region_held3 (fun w'=>w'.cell? ⟨b0,0,none⟩=some (zu (ahead:Int))∧w'.cell? ⟨b1,0,none⟩=some (.pointer (some ⟨A.be,0,none⟩))∧w'.cell? ⟨b2,0,none⟩=some (zu (nx:Int))∧w'.cell? ⟨b3,0,none⟩=some (zi (key:Int))∧w'.cell? ⟨b4,0,none⟩=some (zu (link:Int)))
      (first|exact⟨g0,g1,g2,g3,g4⟩|assumption|go_keep|exact HKK2.out _ _ (by assumption) (by assumption)|exact HKS2.out _ _ _ (by assumption) (by assumption))
      (first|(go_at_call 179;refine HM.out.mono ?_;rintro e w2 ⟨v,rfl,p1,p2,p3⟩;obtain⟨fv,fb,fc,e3⟩:=SRep.form p3;subst e3;have z25:=p1.engF 25;obtain⟨vo,y25⟩:∃ vo,w2.cell? ⟨A2.be,25,none⟩=some vo:=⟨_,p1.eng 25 rfl⟩;rw[HF5.out.2.1] at z25 y25;have q5:=HG5.out.trans p2;have HP:=zH p3;have HPG:=zH p2;clear p2 p3))
     go_wp2_with fail
     go_ret
     obtain⟨k1,k2,k3⟩:=HF5.out
     obtain⟨A',a1,a2,a3,a4,a5⟩:=p1.sweepPut _ _ HP.out
     rw[k2] at a3 a4 a5
     rw[hkk]
     exact⟨rfl,A',k1.trans a1,a3,q5.trans a4,a5,fun _=>CRow.keep (A:=A2) (σ:={σp with cut:=σ.cut++[(link,σ.seq)],cuts:=σ.cuts+1}) (w:=w5) k3 a2 rfl (((Grow.drew A2.L w5).trans HPG.out).trans a4)⟩
   )
def okS (σ:St):S→Bool
 |.now=>decide (σ.word 0<18446744073709551616)
 |.live s=>decide (s<8)
 |.head key=>decide (key≤63)
 |.visit _ _ link=>vl σ link&&small σ (wslot link 0)
 |.maker _ _ _ id=>decide (id≤2000)&&small σ (σ.place id)
 |.garbage _ _ link _=>vl σ link&&small σ (wslot link 1)
 |.on key link=>decide (key≤63)&&vl σ link
 |.unlink _ _ link=>vl σ link
 |.cut key ahead link _=>decide (key≤63)&&((decide (ahead=0)||vl σ ahead)&&decide (σ.cut.length<1000000))
theorem SRep.enter {e:Nat} {L:Lab} {w:World} {v:Value}:∀ {k:S},SRep e L w v (some k)→∃ f b c,v=.func (.func f) b c∧∀ args w,(callFunc f args).run Tryz.prog w=.ok (.enter f args) w
 |.now,h=>⟨_,_,_,h,fun _ _=>by kernel_rfl⟩
 |.live _,h=>let ⟨_,_,e,_⟩:=h;⟨_,_,_,e,fun _ _=>by kernel_rfl⟩
 |.head _,h=>let ⟨_,_,e,_⟩:=h;⟨_,_,_,e,fun _ _=>by kernel_rfl⟩
 |.visit _ _ _,h=>let ⟨_,_,_,_,e,_⟩:=h;⟨_,_,_,e,fun _ _=>by kernel_rfl⟩
 |.maker _ _ _ _,h=>let ⟨_,_,_,_,_,e,_⟩:=h;⟨_,_,_,e,fun _ _=>by kernel_rfl⟩
 |.garbage _ _ _ _,h=>let ⟨_,_,_,_,_,e,_⟩:=h;⟨_,_,_,e,fun _ _=>by kernel_rfl⟩
 |.on _ _,h=>let ⟨_,_,_,e,_⟩:=h;⟨_,_,_,e,fun _ _=>by kernel_rfl⟩
 |.unlink _ _ _,h=>let ⟨_,_,_,_,e,_⟩:=h;⟨_,_,_,e,fun _ _=>by kernel_rfl⟩
 |.cut _ _ _ _,h=>let ⟨_,_,_,_,_,e,_⟩:=h;⟨_,_,_,e,fun _ _=>by kernel_rfl⟩
theorem sRuns {A:Book} {σ:St} {w:World} (hR:Rep A σ w) (hck:CutOk A σ.cut) (hcnt:σ.count<3000000000000000000):∀ (k:S) (_:okS σ k=true) (f:FuncId) (b c:Array Value),SRep A.be A.L w (.func (.func f) b c) (some k)→Calls Tryz.prog f (b++c) w (SRan A σ w (σ.sweepRun k))
 |.now,h,f,b,c,hs=>by
  obtain⟨rfl,rfl,rfl⟩:=func_inj hs;exact sw_now hR (by omega) (of_decide_eq_true h)
 |.live s,h,f,b,c,hs=>by
  obtain⟨b0,b1,e,k0,k1⟩:=hs;obtain⟨rfl,rfl,rfl⟩:=func_inj e;exact k_live hR s (of_decide_eq_true h) (by omega) b0 b1 k0 k1
 |.head key,h,f,b,c,hs=>by
  obtain⟨b0,b1,e,k0,k1⟩:=hs;obtain⟨rfl,rfl,rfl⟩:=func_inj e;exact k_head hR key (of_decide_eq_true h) (by omega) b0 b1 k0 k1
 |.visit key ahead link,h,f,b,c,hs=>by
  obtain⟨b0,b1,b2,b3,e,k0,k1,k2,k3⟩:=hs;obtain⟨rfl,rfl,rfl⟩:=func_inj e;obtain⟨h1,h2⟩:=and_ok h
  by_cases hx:(rd (σ.word (wslot link 0))).1=2
  · exact k_svisit_y hR key ahead link (vl_iff h1) (small_iff h2) (by simp[hx]) (by omega) b0 b1 b2 b3 k0 k1 k2 k3
  · exact k_svisit_n hR key ahead link (vl_iff h1) (small_iff h2) (by simp[hx]) (by omega) b0 b1 b2 b3 k0 k1 k2 k3
 |.maker key ahead link id,h,f,b,c,hs=>by
  obtain⟨b0,b1,b2,b3,b4,e,k0,k1,k2,k3,k4⟩:=hs;obtain⟨rfl,rfl,rfl⟩:=func_inj e;obtain⟨h1,h2⟩:=and_ok h;have hid:=of_decide_eq_true h1
  by_cases hx:stateOf (σ.word (σ.place id))=4
  · exact k_smaker_y hR key ahead link id (by omega) (place_lt hR hid) (small_iff h2) (by simp[hx]) (by omega) b0 b1 b2 b3 b4 k0 k1 k2 k3 k4
  · exact k_smaker_n hR key ahead link id (by omega) (place_lt hR hid) (small_iff h2) (by simp[hx]) (by omega) b0 b1 b2 b3 b4 k0 k1 k2 k3 k4
 |.garbage key ahead link bb,h,f,b,c,hs=>by
  obtain⟨b0,b1,b2,b3,b4,e,k0,k1,k2,k3,k4⟩:=hs;obtain⟨rfl,rfl,rfl⟩:=func_inj e;obtain⟨h1,h2⟩:=and_ok h
  cases hx:garbage (σ.word (wslot link 1)) σ.low with
  |true=>exact k_garbage_y hR key ahead link bb (vl_iff h1) (small_iff h2) hx (by omega) b0 b1 b2 b3 b4 k0 k1 k2 k3 k4
  |false=>exact k_garbage_n hR key ahead link bb (vl_iff h1) (small_iff h2) hx (by omega) b0 b1 b2 b3 b4 k0 k1 k2 k3 k4
 |.on key link,h,f,b,c,hs=>by
  obtain⟨b0,b1,b2,e,k0,k1,k2⟩:=hs;obtain⟨rfl,rfl,rfl⟩:=func_inj e;obtain⟨h1,h2⟩:=and_ok h;exact k_on hR key link (of_decide_eq_true h1) (vl_iff h2) (by omega) b0 b1 b2 k0 k1 k2
 |.unlink key ahead link,h,f,b,c,hs=>by
  obtain⟨b0,b1,b2,b3,e,k0,k1,k2,k3⟩:=hs;obtain⟨rfl,rfl,rfl⟩:=func_inj e;exact k_unlink hR key ahead link (vl_iff h) (by omega) b0 b1 b2 b3 k0 k1 k2 k3
 |.cut key ahead link nx,h,f,b,c,hs=>by
  obtain⟨b0,b1,b2,b3,b4,e,k0,k1,k2,k3,k4⟩:=hs;obtain⟨rfl,rfl,rfl⟩:=func_inj e;obtain⟨h1,h⟩:=and_ok h;obtain⟨h2,h3⟩:=and_ok h;have hln:=of_decide_eq_true h3;rw[Bool.or_eq_true,decide_eq_true_eq] at h2
  by_cases ha:ahead=0
  · by_cases hw:σ.word (9+key)=link
    · exact k_cut_on hR key ahead link nx (of_decide_eq_true h1) (.inl ⟨ha,hw⟩) hck hln (by omega) b0 b1 b2 b3 b4 k0 k1 k2 k3 k4
    · exact k_cut_miss hR key ahead link nx (of_decide_eq_true h1) ha hw (by omega) b0 b1 b2 b3 b4 k0 k1 k2 k3 k4
  · exact k_cut_on hR key ahead link nx (of_decide_eq_true h1) (.inr (vl_iff (h2.resolve_left ha))) hck hln (by omega) b0 b1 b2 b3 b4 k0 k1 k2 k3 k4
theorem sweepRun_keeps (σ:St) (k:S):(σ.sweepRun k).1.calls=σ.calls∧(σ.sweepRun k).1.count=σ.count+1∧(σ.sweepRun k).1.looks=σ.looks:=by
 cases k<;>simp only[St.sweepRun]<;>(repeat' split)<;>exact⟨rfl,rfl,rfl⟩
theorem Live.sonly {A A':Book} {σ σ':St} {w w':World} (hL:Live A σ w) (r:Rep A' σ' w') (g:Grow A.L w A'.L w') (s:SOnly A A') (hc:σ'.calls=σ.calls) (sx:SwRep A' σ' w'):Live A' σ' w':=by
 obtain⟨⟨L,v,c,f,m,hc',gc,cs,rfl⟩,hm⟩:=s;have ek:∀ s,kp {A with L:=L,vsweep:=v,vcut:=c,vfree:=f,mp:=m,hcut:=hc',gcut:=gc,cutCs:=cs} σ' s=kp A σ s:=fun s=>by unfold kp St.c;rw[hc]
 refine⟨r,hm.trans hL.mp,hL.mt,fun s h c hcs=>?_,fun s h hcs=>hL.idle s h (by rw[←hc];exact hcs),sx⟩;obtain⟨e1,k,e2,e3⟩:=hL.call s h c (by rw[←hc];exact hcs);exact⟨e1,k,e2,by rw[ek];exact e3.grow g⟩
def Swept (A:Book) (w:World) (σ':St) (x:Bool):Ending→World→Prop:=fun e w'=>e=.returned (.bool x)∧∃ A',SOnly A A'∧Live A' σ' w'∧Grow A.L w A'.L w'
def GiveNo (σ:St):Prop:=∀ A w,Live A σ w→Calls Tryz.prog 105 #[.pointer (some ⟨A.be,0,none⟩)] w fun e w'=>e=.returned (.bool false)∧Below w.heap.size w w'
theorem fnNe (f:FuncId) (b c:Array Value) (w:World):(binOp .eql 47 (.func (.func f) b c) .nilFunc).run Tryz.prog w=.ok (.bool false) w:=by rfl
theorem fnEq (w:World):(binOp .eql 47 .nilFunc .nilFunc).run Tryz.prog w=.ok (.bool true) w:=by rfl
theorem sweep_some {A:Book} {σ:St} {w:World} (hL:Live A σ w) (k:S) (hsw:σ.sw=some k) (hgn:GiveNo σ) (hcnt:σ.count<3000000000000000000) (hlk:σ.looks<1000000000000000000) (hok:okS σ k=true):
 Calls Tryz.prog 81 #[.pointer (some ⟨A.be,0,none⟩)] w (Swept A w ({(σ.sweepRun k).1 with looks:=σ.looks+1}) (σ.sweepRun k).2):=by
 obtain⟨r2,g2,f0,f1⟩:=allocs2 hL.rep #[.pointer (some ⟨A.be,0,none⟩)] 27 #[zi (σ.count:Int)] 3;have hcn:=zH ((count_any (hL.rep.alloc (.cells #[.pointer (some ⟨A.be,0,none⟩)] 27)) (by omega)).mono (fun e w9 h=>(⟨h.1,h.2.symm⟩:e=_∧w9=w.alloc (.cells #[.pointer (some ⟨A.be,0,none⟩)] 27))));have e2:(w.alloc (.cells #[.pointer (some ⟨A.be,0,none⟩)] 27)).cell? ⟨A.be,2,none⟩=some (.pointer (some ⟨A.ba,0,none⟩)):=(hL.rep.alloc _).eng 2 rfl;have y0:=f0.cell 0 (v:=.pointer (some ⟨A.be,0,none⟩)) rfl;have hS:=hL.sx.sw;have hC:CRow A σ w:=hL.sx.cu;have HG:=zH (hgn A _ (hL.world r2 g2));rw[hsw] at hS;obtain⟨fv,fb,fc,hv,he⟩:=hS.enter;obtain⟨hk1,hk2,hk3⟩:=sweepRun_keeps σ k
 have H3 : Hid (∀ w3, Below ((w.alloc (.cells #[.pointer (some ⟨A.be, 0, none⟩)] 27)).alloc (.cells #[zi (σ.count : Int)] 3)).heap.size ((w.alloc (.cells #[.pointer (some ⟨A.be, 0, none⟩)] 27)).alloc (.cells #[zi (σ.count : Int)] 3)) w3 →
     w3.cell? ⟨w.heap.size,0,none⟩=some (.pointer (some ⟨A.be,0,none⟩))∧w3.cell? ⟨A.be,25,none⟩=some (.func (.func fv) fb fc)∧Calls Tryz.prog fv (fb++fc) w3 (fun e w4=>e=.returned (.bool (σ.sweepRun k).2)∧∃ A',SOnly A A'∧Rep A' (σ.sweepRun k).1 w4∧Grow A.L w A'.L w4∧SRep A'.be A'.L w4 (A'.sv (σ.sweepRun k).1.sw) (σ.sweepRun k).1.sw∧CRow A' (σ.sweepRun k).1 w4∧Box A'.L w4 w.heap.size (.pointer (some ⟨A'.be,0,none⟩))∧Box A'.L w4 (w.heap.size+1) (zi (σ.count:Int)))):=by
  intro w3 hb;have gb:=Grow.below (L:=A.L) hb;have r3:=r2.below hb;have c25:=r3.eng 25 (v:=A.sv σ.sw) rfl;rw[hsw,hv] at c25;refine⟨(f0.grow gb).cell 0 rfl,c25,?_⟩;have hS3:=hS.grow (g2.trans gb);rw[hv] at hS3;refine (sRuns r3 hC hcnt k hok fv fb fc hS3).mono ?_;rintro e w4 ⟨rfl,A',s1,s2,s3,s4,s5⟩;have hbe:A'.be=A.be:=by obtain⟨⟨L,v,c,f,m,hc',gc,cs,rfl⟩,_⟩:=s1;rfl
  exact⟨rfl,A',s1,s2,(g2.trans gb).trans s3,s4,s5 (hC.keep rfl rfl (g2.trans gb)),by rw[hbe];exact ((f0.grow gb).grow s3).box,((f1.grow gb).grow s3).box⟩
 have HLH:=zH (zA hL (zA hcnt (zA hlk (zA hk1 (zA hk2 hk3)))));clear r2 g2 f0 f1 hL hS hC hgn hcnt hlk hok hv hsw hk1 hk2 hk3;generalize σ.sweepRun k=rr at*;have hne:=fnNe fv fb fc
 go_enter_defers Tryz.func81,Tryz.ntmps81
 go_wp2_with (first|(go_at_call 52;refine hcn.out.mono ?_;rintro e w1 ⟨rfl,rfl⟩)|(go_at_call 105;refine HG.out.mono ?_;rintro e w3 ⟨rfl,hb⟩;obtain⟨x0,x25,hc⟩:=H3.out w3 hb;have HC:=zH hc;clear hc hb));refine HC.out.mono ?_;rintro e w4 ⟨rfl,A',s1,s2,s3,s4,s5,B0,B1⟩;have HD:=zH (sweep_countD s2 σ.count 1 HLH.out.2.2.2.2.1 (by rw[HLH.out.2.2.2.2.1];have:=HLH.out.2.1;omega) (by rw[HLH.out.2.2.2.2.2];exact HLH.out.2.2.1) (by omega) _ _ B0 B1);have HS:=zH (zA s1 (zA s2 (zA s3 (zA s4 s5))));clear s1 s2 s3 s4 s5 B0 B1 HC;go_wp2;refine leaves_cons (f:=104) (args:=#[.pointer (some ⟨w.heap.size,0,none⟩),.pointer (some ⟨w.heap.size+1,0,none⟩)]) (by simp) (by simp[go_sem]) ?_;refine HD.out.mono ?_;rintro e u w5 ⟨rfl,rfl,r5,g5⟩;simp[Leaves,settle,results,Tryz.results81];obtain⟨s1,s2,s3,s4,s5⟩:=HS.out;obtain⟨hL,_,_,hk1,hk2,hk3⟩:=HLH.out;rw[hk3] at r5;exact⟨rfl,A',s1,hL.sonly r5 (s3.trans g5) s1 hk1 ⟨s4.grow g5,s5⟩,s3.trans g5⟩
theorem sweep_none {A:Book} {σ:St} {w:World} (hL:Live A σ w) (hsw:σ.sw=none) (hgn:GiveNo σ) (hcnt:σ.count<3000000000000000000) (hlk:σ.looks<1000000000000000000) (hok:okS σ .now=true):
 Calls Tryz.prog 81 #[.pointer (some ⟨A.be,0,none⟩)] w (Swept A w ({(σ.sweepRun .now).1 with looks:=σ.looks+1}) (σ.sweepRun .now).2):=by
 obtain⟨r2,g2,f0,f1⟩:=allocs2 hL.rep #[.pointer (some ⟨A.be,0,none⟩)] 27 #[zi (σ.count:Int)] 3;have hcn:=zH ((count_any (hL.rep.alloc (.cells #[.pointer (some ⟨A.be,0,none⟩)] 27)) (by omega)).mono (fun e w9 h=>(⟨h.1,h.2.symm⟩:e=_∧w9=w.alloc (.cells #[.pointer (some ⟨A.be,0,none⟩)] 27))));have e2:(w.alloc (.cells #[.pointer (some ⟨A.be,0,none⟩)] 27)).cell? ⟨A.be,2,none⟩=some (.pointer (some ⟨A.ba,0,none⟩)):=(hL.rep.alloc _).eng 2 rfl;have y0:=f0.cell 0 (v:=.pointer (some ⟨A.be,0,none⟩)) rfl;have hC:CRow A σ w:=hL.sx.cu;have HG:=zH (hgn A _ (hL.world r2 g2));have he:∀ args w,(callFunc 106 args).run Tryz.prog w=.ok (.enter 106 args) w:=fun _ _=>by kernel_rfl
 obtain⟨hk1,hk2,hk3⟩:=sweepRun_keeps σ .now
 have H3 : Hid (∀ w3, Below ((w.alloc (.cells #[.pointer (some ⟨A.be, 0, none⟩)] 27)).alloc (.cells #[zi (σ.count : Int)] 3)).heap.size ((w.alloc (.cells #[.pointer (some ⟨A.be, 0, none⟩)] 27)).alloc (.cells #[zi (σ.count : Int)] 3)) w3 →
     w3.cell? ⟨w.heap.size,0,none⟩=some (.pointer (some ⟨A.be,0,none⟩))∧w3.cell? ⟨A.be,25,none⟩=some .nilFunc∧w3.frozen? ⟨A.be,25,none⟩=false∧(w3.setCell ⟨A.be,25,none⟩ (.func (.func 106) #[.pointer (some ⟨A.be,0,none⟩)] #[])).cell? ⟨w.heap.size,0,none⟩=some (.pointer (some ⟨A.be,0,none⟩))∧(w3.setCell ⟨A.be,25,none⟩ (.func (.func 106) #[.pointer (some ⟨A.be,0,none⟩)] #[])).cell? ⟨A.be,25,none⟩=some (.func (.func 106) #[.pointer (some ⟨A.be,0,none⟩)] #[])∧Calls Tryz.prog 106 #[.pointer (some ⟨A.be,0,none⟩)] (w3.setCell ⟨A.be,25,none⟩ (.func (.func 106) #[.pointer (some ⟨A.be,0,none⟩)] #[])) (fun e w4=>e=.returned (.bool (σ.sweepRun .now).2)∧∃ A',SOnly A A'∧Rep A' (σ.sweepRun .now).1 w4∧Grow A.L w A'.L w4∧SRep A'.be A'.L w4 (A'.sv (σ.sweepRun .now).1.sw) (σ.sweepRun .now).1.sw∧CRow A' (σ.sweepRun .now).1 w4∧Box A'.L w4 w.heap.size (.pointer (some ⟨A'.be,0,none⟩))∧Box A'.L w4 (w.heap.size+1) (zi (σ.count:Int)))):=by
  intro w3 hb;have gb:=Grow.below (L:=A.L) hb;have r3:=r2.below hb;have c25:=r3.eng 25 (v:=A.sv σ.sw) rfl;rw[hsw] at c25;have hv:A.sv (none:Option S)=.nilFunc:=rfl;rw[hv] at c25;have z25:=r3.engF 25;obtain⟨r4,g4⟩:=r3.sweepSet (.func (.func 106) #[.pointer (some ⟨A.be,0,none⟩)] #[]) .now;refine⟨(f0.grow gb).cell 0 rfl,c25,z25,((f0.grow gb).grow g4).cell 0 rfl,World.cell?_setCell_same _ _ _ c25,?_⟩;refine (sw_now r4 (by show σ.count<_;omega) (of_decide_eq_true hok)).mono ?_;rintro e w4 ⟨rfl,A',s1,s2,s3,s4,s5⟩;have hs0:SOnly A {A with vsweep:=.func (.func 106) #[.pointer (some ⟨A.be,0,none⟩)] #[]}:=⟨⟨_,_,_,_,_,_,_,_,rfl⟩,rfl⟩
  have hbe:A'.be=A.be:=by obtain⟨⟨L,v,c,f,m,hc',gc,cs,rfl⟩,_⟩:=s1;rfl
  have hC3:CRow {A with vsweep:=.func (.func 106) #[.pointer (some ⟨A.be,0,none⟩)] #[]} ({σ with sw:=some .now}:St) (w3.setCell ⟨A.be,25,none⟩ (.func (.func 106) #[.pointer (some ⟨A.be,0,none⟩)] #[])):=hC.keep rfl rfl ((g2.trans gb).trans g4);exact⟨rfl,A',hs0.trans s1,s2,((g2.trans gb).trans g4).trans s3,s4,s5 hC3,by rw[hbe];exact (((f0.grow gb).grow g4).grow s3).box,(((f1.grow gb).grow g4).grow s3).box⟩
 have HLH:=zH (zA hL (zA hcnt (zA hlk (zA hk1 (zA hk2 hk3)))));clear r2 g2 f0 f1 hL hC hgn hcnt hlk hok hsw hk1 hk2 hk3;generalize σ.sweepRun .now=rr at*;have heq:=fnEq
 go_enter_defers Tryz.func81,Tryz.ntmps81
 go_wp2_with (first|(go_at_call 52;refine hcn.out.mono ?_;rintro e w1 ⟨rfl,rfl⟩)|(go_at_call 105;refine HG.out.mono ?_;rintro e w3 ⟨rfl,hb⟩;obtain⟨x0,x25,z25,q0,q25,hc⟩:=H3.out w3 hb;have HC:=zH hc;clear hc hb));refine HC.out.mono ?_;rintro e w4 ⟨rfl,A',s1,s2,s3,s4,s5,B0,B1⟩;have HD:=zH (sweep_countD s2 σ.count 1 HLH.out.2.2.2.2.1 (by rw[HLH.out.2.2.2.2.1];have:=HLH.out.2.1;omega) (by rw[HLH.out.2.2.2.2.2];exact HLH.out.2.2.1) (by omega) _ _ B0 B1);have HS:=zH (zA s1 (zA s2 (zA s3 (zA s4 s5))));clear s1 s2 s3 s4 s5 B0 B1 HC;go_wp2;refine leaves_cons (f:=104) (args:=#[.pointer (some ⟨w.heap.size,0,none⟩),.pointer (some ⟨w.heap.size+1,0,none⟩)]) (by simp) (by simp[go_sem]) ?_;refine HD.out.mono ?_;rintro e u w5 ⟨rfl,rfl,r5,g5⟩;simp[Leaves,settle,results,Tryz.results81];obtain⟨s1,s2,s3,s4,s5⟩:=HS.out;obtain⟨hL,_,_,hk1,hk2,hk3⟩:=HLH.out;rw[hk3] at r5;exact⟨rfl,A',s1,hL.sonly r5 (s3.trans g5) s1 hk1 ⟨s4.grow g5,s5⟩,s3.trans g5⟩
theorem give_tags (σ:St) (link:Nat):(σ.give link).calls=σ.calls∧(σ.give link).count=σ.count∧(σ.give link).looks=σ.looks∧(σ.give link).sw=σ.sw:=by
 unfold St.give;dsimp only
 split
 · split<;>exact⟨rfl,rfl,rfl,rfl⟩
 · exact⟨rfl,rfl,rfl,rfl⟩
theorem sweep_give {A:Book} {σ:St} {w:World} (hL:Live A σ w) (link seq:Nat) (rest:List (Nat×Nat)) (hv:VL σ link) (hp:PoolOk σ) (hcut:σ.cut=(link,seq)::rest) (hln:σ.cut.length<1000000) (hall:∀ q,q<8→behind seq (σ.calls.getD q none)=true) (hcnt:σ.count<3000000000000000000) (hlk:σ.looks<1000000000000000000):
 Calls Tryz.prog 81 #[.pointer (some ⟨A.be,0,none⟩)] w (Swept A w ({σ.give link with cut:=rest}) true):=by
 obtain⟨r2,g2,f0,f1⟩:=allocs2 hL.rep #[.pointer (some ⟨A.be,0,none⟩)] 27 #[zi (σ.count:Int)] 3;have hcn:=zH ((count_any (hL.rep.alloc (.cells #[.pointer (some ⟨A.be,0,none⟩)] 27)) (by omega)).mono (fun e w9 h=>(⟨h.1,h.2.symm⟩:e=_∧w9=w.alloc (.cells #[.pointer (some ⟨A.be,0,none⟩)] 27))));have e2:(w.alloc (.cells #[.pointer (some ⟨A.be,0,none⟩)] 27)).cell? ⟨A.be,2,none⟩=some (.pointer (some ⟨A.ba,0,none⟩)):=(hL.rep.alloc _).eng 2 rfl;have y0:=f0.cell 0 (v:=.pointer (some ⟨A.be,0,none⟩)) rfl;obtain⟨k1,k2,k3,k4⟩:=give_tags σ link;have hS:=hL.sx.sw
 have HG := zH ((give_some (hL.world r2 g2) link seq rest hv hp hcut hln).mono (fun e w3 h => (by
   rcases h with ⟨q,hq,hqf,_⟩|⟨_,h1,A',s1,s0,s2,s3,s5⟩
   · rw[hall q hq] at hqf;cases hqf
   have hbe:A'.be=A.be:=by obtain⟨⟨L,v,c,f,m,hc',gc,cs,rfl⟩,_⟩:=s1;rfl
   refine⟨h1,A',s1,s2,g2.trans s3,?_,s5,by rw[hbe];exact (f0.grow s3).box,(f1.grow s3).box⟩
   have h9:=hS.grow (g2.trans s3)
   have e9:A'.sv σ.sw=A.sv σ.sw:=by unfold Book.sv;rw[s0]
   rw[hbe,e9]
   exact h9:e=.returned (.bool true)∧∃ A',SOnly A A'∧Rep A' {σ.give link with cut:=rest} w3∧Grow A.L w A'.L w3∧SRep A'.be A'.L w3 (A'.sv σ.sw) σ.sw∧CutOk A' rest∧Box A'.L w3 w.heap.size (.pointer (some ⟨A'.be,0,none⟩))∧Box A'.L w3 (w.heap.size+1) (zi (σ.count:Int)))))
 have HLH:=zH (zA hL (zA hcnt (zA hlk (zA k1 (zA k2 (zA k3 k4))))));clear r2 g2 f0 f1 hL hS hcut hln hall hcnt hlk hv hp k1 k2 k3 k4
 go_enter_defers Tryz.func81,Tryz.ntmps81
 go_wp2_with (first|(go_at_call 52;refine hcn.out.mono ?_;rintro e w1 ⟨rfl,rfl⟩)|(go_at_call 105;refine HG.out.mono ?_;rintro e w4 ⟨rfl,A',s1,s2,s3,s4,s5,B0,B1⟩;have HS:=zH (zA s1 (zA s2 (zA s3 (zA s4 s5))));have HD:=zH (sweep_countD s2 σ.count 0 HLH.out.2.2.2.2.1 (by show (σ.give link).count<_;rw[HLH.out.2.2.2.2.1];have:=HLH.out.2.1;omega) (by show (σ.give link).looks<_;rw[HLH.out.2.2.2.2.2.1];exact HLH.out.2.2.1) (by omega) _ _ B0 B1);clear s1 s2 s3 s4 s5 B0 B1));refine leaves_cons (f:=104) (args:=#[.pointer (some ⟨w.heap.size,0,none⟩),.pointer (some ⟨w.heap.size+1,0,none⟩)]) (by simp) (by simp[go_sem]) ?_;refine HD.out.mono ?_;rintro e u w5 ⟨rfl,rfl,r5,g5⟩;simp[Leaves,settle,results,Tryz.results81];obtain⟨s1,s2,s3,s4,s5⟩:=HS.out;obtain⟨hL,_,_,k1,k2,k3,k4⟩:=HLH.out;refine⟨rfl,A',s1,hL.sonly r5 (s3.trans g5) s1 k1 ⟨?_,s5⟩,s3.trans g5⟩;show SRep A'.be A'.L w5 (A'.sv (σ.give link).sw) (σ.give link).sw;rw[k4];exact s4.grow g5
def okSweep (σ:St):Bool:=okS σ (σ.sw.getD .now)&&(okPool σ&&(σ.cut.all (fun p=>vl σ p.1)&&(decide (σ.cut.length<1000000)&&(decide (σ.count<3000000000000000000)&&(decide (σ.looks<1000000000000000000)&&decide (σ.calls.length=8))))))
theorem behind_all {σ:St} {seq:Nat} (h8:σ.calls.length=8):(σ.calls.all (fun c=>match c with|some c=>seq<c.seq|none=>true))=true↔∀ q,q<8→behind seq (σ.calls.getD q none)=true:=by
 rw[List.all_eq_true];refine⟨fun h q hq=>?_,fun h c hc=>?_⟩
 · have hl:q<σ.calls.length:=by omega
   have:=h _ (List.getElem_mem hl);rw[List.getD_eq_getElem?_getD,List.getElem?_eq_getElem hl];show behind seq σ.calls[q]=true;unfold behind
   cases e:σ.calls[q] with
   |none=>rfl
   |some c=>rw[e] at this;simpa using this
 · obtain⟨q,hq,rfl⟩:=List.mem_iff_getElem.1 hc
   have:=h q (by omega);rw[List.getD_eq_getElem?_getD,List.getElem?_eq_getElem hq] at this;change behind seq σ.calls[q]=true at this;unfold behind at this
   cases e:σ.calls[q] with
   |none=>rfl
   |some c=>rw[e] at this;simpa using this
theorem giveNo_nil {σ:St} (h:σ.cut=[]):GiveNo σ:=fun A w hL=>give_none hL.rep hL.sx.cu h
theorem giveNo_call {σ:St} {link seq:Nat} {rest:List (Nat×Nat)} (hv:VL σ link) (hp:okPool σ=true) (hcut:σ.cut=(link,seq)::rest) (hln:σ.cut.length<1000000) (h8:σ.calls.length=8) (h:(σ.calls.all (fun c=>match c with|some c=>seq<c.seq|none=>true))=false):GiveNo σ:=fun A w hL=>by
 refine (give_some hL link seq rest hv (okPool_iff hL.rep.nt hp) hcut hln).mono (fun e w3 hh=>?_)
 rcases hh with ⟨q,_,_,h1,h2⟩|⟨h1,_⟩
 · exact⟨h1,h2⟩
 · rw[(behind_all h8).2 h1] at h;cases h
theorem sweep_any {A:Book} {σ:St} {w:World} (hL:Live A σ w) (hok:okSweep σ=true):
 Calls Tryz.prog 81 #[.pointer (some ⟨A.be,0,none⟩)] w (Swept A w σ.sweep.1 σ.sweep.2):=by
 unfold okSweep at hok;simp only[Bool.and_eq_true,decide_eq_true_eq,List.all_eq_true] at hok;obtain⟨h1,h2,h3,h4,h5,h6,h8⟩:=hok;have hgo:GiveNo σ→Calls Tryz.prog 81 #[.pointer (some ⟨A.be,0,none⟩)] w (Swept A w (St.sweep.go σ).1 (St.sweep.go σ).2):=fun hg=>by
  have e:∀ k:S,(σ.sweepRun k).1.looks+((σ.sweepRun k).1.count - σ.count)=σ.looks+1:=fun k=>by
   obtain⟨-,e2,e3⟩:=sweepRun_keeps σ k;rw[e2,e3];omega
  cases hsw:σ.sw with
  |none=>
   rw[hsw] at h1;have:=sweep_none hL hsw hg h5 h6 h1;unfold St.sweep.go;rw[hsw];show Calls _ _ _ w (Swept A w {(σ.sweepRun .now).1 with looks:=(σ.sweepRun .now).1.looks+((σ.sweepRun .now).1.count - σ.count)} _);rw[e];exact this
  |some k=>
   rw[hsw] at h1;have:=sweep_some hL k hsw hg h5 h6 h1;unfold St.sweep.go;rw[hsw];show Calls _ _ _ w (Swept A w {(σ.sweepRun k).1 with looks:=(σ.sweepRun k).1.looks+((σ.sweepRun k).1.count - σ.count)} _);rw[e];exact this
 unfold St.sweep
 split
 · rename_i link seq rest hcut
   have hv:=vl_iff (h3 (link,seq) (by rw[hcut];exact List.mem_cons_self))
   split
   · rename_i hall
     exact sweep_give hL link seq rest hv (okPool_iff hL.rep.nt h2) hcut h4 ((behind_all h8).1 hall) h5 h6
   · rename_i hall
     exact hgo (giveNo_call hv h2 hcut h4 h8 (Bool.eq_false_iff.2 hall))
 · rename_i hcut
   exact hgo (giveNo_nil hcut)
end Go.Proofs.YtbefcdjcefmicaaGreat.Em
