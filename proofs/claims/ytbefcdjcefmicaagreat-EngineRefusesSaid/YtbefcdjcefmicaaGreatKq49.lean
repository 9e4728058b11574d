import Derived.Test.YtbefcdjcefmicaaGreatKq43
namespace Go.Proofs.YtbefcdjcefmicaaGreat.Em
open Go.ChangeShapes Go.WideShapes Go.ChangeAt Go.RowKit En
set_option linter.unusedVariables false
set_option linter.unusedSimpArgs false
set_option maxRecDepth 100000
set_option maxHeartbeats 1600000
theorem k_smaker_y {A:Book} {σ:St} {w:World} (hR:Rep A σ w) (key ahead link id:Nat) (hid:id≤65535) (hpl:σ.place id<σ.words.length) (hw:σ.word (σ.place id)<18446744073709551616) (h4:(stateOf (σ.word (σ.place id))=4)=True) (hcnt:σ.count<4000000000000000000) (b0:Nat) (b1:Nat) (b2:Nat) (b3:Nat) (b4:Nat) (B0:Box A.L w b0 (.pointer (some ⟨A.be,0,none⟩))) (B1:Box A.L w b1 (zi (id:Int))) (B2:Box A.L w b2 (zi (key:Int))) (B3:Box A.L w b3 (zu (ahead:Int))) (B4:Box A.L w b4 (zu (link:Int))):
 Calls Tryz.prog 204 #[.pointer (some ⟨b0,0,none⟩),.pointer (some ⟨b1,0,none⟩),.pointer (some ⟨b2,0,none⟩),.pointer (some ⟨b3,0,none⟩),.pointer (some ⟨b4,0,none⟩)] w (SRan A σ w (σ.sweepRun (.maker key ahead link id))):=by
 have c0:=B0.cell;have c1:=B1.cell;have c2:=B2.cell;have c3:=B3.cell;have c4:=B4.cell;have e2:w.cell? ⟨A.be,2,none⟩=some (.pointer (some ⟨A.ba,0,none⟩)):=hR.eng 2 rfl;have HPL:=zH (place_still hR.drew id hid);have HU:=zH (fun w'=>unpack_any (σ.word (σ.place id)) hw w');have HL:Hid (∀ w',Rep A σ w'→Calls Tryz.prog 73 #[.pointer (some ⟨A.ba,0,none⟩),zi (((σ.place id:Nat):Int))] w' (Did A w' σ.tick (zu (σ.word (σ.place id):Int)))):=fun w' r=>load_i r (σ.place id) (((σ.place id:Nat):Int)) rfl hpl hcnt
 have HRd:Hid (Rep A σ w.drew):=hR.drew;have HKK:Hid (∀ w',Rep A σ.tick w'→Grow A.L w A.L w'→w'.cell? ⟨b0,0,none⟩=some (.pointer (some ⟨A.be,0,none⟩))∧w'.cell? ⟨b1,0,none⟩=some (zi (id:Int))∧w'.cell? ⟨b2,0,none⟩=some (zi (key:Int))∧w'.cell? ⟨b3,0,none⟩=some (zu (ahead:Int))∧w'.cell? ⟨b4,0,none⟩=some (zu (link:Int))∧w'.cell? ⟨A.be,2,none⟩=some (.pointer (some ⟨A.ba,0,none⟩))):=fun w' r g=>⟨(B0.grow g).cell,(B1.grow g).cell,(B2.grow g).cell,(B3.grow g).cell,(B4.grow g).cell,r.eng 2 rfl⟩
 have HKS:Hid (∀ w' x,Rep A σ.tick w'→Grow A.L w A.L w'→(w'.setCell ⟨A.be,25,none⟩ x).cell? ⟨b0,0,none⟩=some (.pointer (some ⟨A.be,0,none⟩))∧(w'.setCell ⟨A.be,25,none⟩ x).cell? ⟨b1,0,none⟩=some (zi (id:Int))∧(w'.setCell ⟨A.be,25,none⟩ x).cell? ⟨b2,0,none⟩=some (zi (key:Int))∧(w'.setCell ⟨A.be,25,none⟩ x).cell? ⟨b3,0,none⟩=some (zu (ahead:Int))∧(w'.setCell ⟨A.be,25,none⟩ x).cell? ⟨b4,0,none⟩=some (zu (link:Int))∧(w'.setCell ⟨A.be,25,none⟩ x).cell? ⟨A.be,2,none⟩=some (.pointer (some ⟨A.ba,0,none⟩))):=fun w' x r g=>let ⟨r',g'⟩:=r.sweepSet x .now;⟨(B0.grow (g.trans g')).cell,(B1.grow (g.trans g')).cell,(B2.grow (g.trans g')).cell,(B3.grow (g.trans g')).cell,(B4.grow (g.trans g')).cell,r'.eng 2 rfl⟩
 have HM:Hid (∀ w',Rep A σ.tick w'→Calls Tryz.prog 205 #[.pointer (some ⟨A.be,0,none⟩),zi (key:Int),zu (ahead:Int),zu (link:Int)] w' (STells A σ.tick w' (some (.unlink key ahead link)))):=fun w' r=>sunlink_any r key ahead link
 have HG:Hid (Grow A.L w A.L w.drew):=Grow.drew _ _;clear hR hcnt B0 B1 B2 B3 B4;have HRES:σ.sweepRun (.maker key ahead link id)=({σ.tick with sw:=some (.unlink key ahead link)},false):=by simp only[St.sweepRun,h4];rfl
 rw[HRES];have f1:((stateOf (σ.word (σ.place id)):Int)=4)=True:=by have:=h4;simp at this ⊢;omega
 have f2:((stateOf (σ.word (σ.place id)):Int)==4)=true:=by have:=h4;simp at this ⊢;omega
 clear hid hpl hw h4;generalize (stateOf (σ.word (σ.place id)):Int)=zs at*;generalize (endOf (σ.word (σ.place id)):Int)=ze at*;generalize (σ.word (σ.place id):Int)=hd at*;generalize ((σ.place id:Nat):Int)=ix at*;go_enter Tryz.func204,Tryz.ntmps204;go_wp2_with fail
 go_region_held3 (fun w'=>w'.cell? ⟨b0,0,none⟩=some (.pointer (some ⟨A.be,0,none⟩))∧w'.cell? ⟨b1,0,none⟩=some (zi (id:Int))∧w'.cell? ⟨b2,0,none⟩=some (zi (key:Int))∧w'.cell? ⟨b3,0,none⟩=some (zu (ahead:Int))∧w'.cell? ⟨b4,0,none⟩=some (zu (link:Int))∧w'.cell? ⟨A.be,2,none⟩=some (.pointer (some ⟨A.ba,0,none⟩)))
  (first|exact⟨c0,c1,c2,c3,c4,e2⟩|assumption|go_keep|exact HKK.out _ (by assumption) (by assumption))
  (first|(go_at_call 78;refine HPL.out.mono ?_;rintro e w9 ⟨rfl,rfl⟩)|(go_at_call 73;refine (HL.out _ HRd.out).mono ?_;rintro e w1 ⟨rfl,q1,q2⟩;have q4:=HG.out.trans q2)|(go_at_call 94;refine (HU.out _).mono ?_;rintro e w9 ⟨rfl,rfl⟩))
 obtain⟨d0,d1,d2,d3,d4,d9⟩:=HKK.out _ q1 q4;have HQ1:=zH q1.drew;have HG1:=zH (q4.trans (Grow.drew _ _));go_wp2_with fail
 go_region_held3 (fun w'=>w'.cell? ⟨b0,0,none⟩=some (.pointer (some ⟨A.be,0,none⟩))∧w'.cell? ⟨b1,0,none⟩=some (zi (id:Int))∧w'.cell? ⟨b2,0,none⟩=some (zi (key:Int))∧w'.cell? ⟨b3,0,none⟩=some (zu (ahead:Int))∧w'.cell? ⟨b4,0,none⟩=some (zu (link:Int))∧w'.cell? ⟨A.be,2,none⟩=some (.pointer (some ⟨A.ba,0,none⟩)))
  (first|exact⟨d0,d1,d2,d3,d4,d9⟩|assumption|go_keep|exact HKK.out _ (by assumption) (by assumption)|exact HKS.out _ _ (by assumption) (by assumption))
  (first|(go_at_call 205;refine (HM.out _ HQ1.out).mono ?_;rintro e w2 ⟨v,rfl,p1,p2,p3⟩;obtain⟨fv,fb,fc,e3⟩:=SRep.form p3;subst e3;obtain⟨vo,y25⟩:∃ vo,w2.cell? ⟨A.be,25,none⟩=some vo:=⟨_,p1.eng 25 (v:=A.sv σ.tick.sw) rfl⟩;have z25:=p1.engF 25;have q5:=HG1.out.trans p2;have HP:=zH p3;clear p2 p3))
 go_wp2_with fail;go_ret;obtain⟨A',a1,a2,a3,a4,a5⟩:=p1.sweepPut _ _ HP.out;exact⟨rfl,A',a1,a3,q5.trans a4,a5,fun hc=>hc.keep a2 rfl (q5.trans a4)⟩
theorem k_smaker_n {A:Book} {σ:St} {w:World} (hR:Rep A σ w) (key ahead link id:Nat) (hid:id≤65535) (hpl:σ.place id<σ.words.length) (hw:σ.word (σ.place id)<18446744073709551616) (h4:(stateOf (σ.word (σ.place id))=4)=False) (hcnt:σ.count<4000000000000000000) (b0:Nat) (b1:Nat) (b2:Nat) (b3:Nat) (b4:Nat) (B0:Box A.L w b0 (.pointer (some ⟨A.be,0,none⟩))) (B1:Box A.L w b1 (zi (id:Int))) (B2:Box A.L w b2 (zi (key:Int))) (B3:Box A.L w b3 (zu (ahead:Int))) (B4:Box A.L w b4 (zu (link:Int))):
 Calls Tryz.prog 204 #[.pointer (some ⟨b0,0,none⟩),.pointer (some ⟨b1,0,none⟩),.pointer (some ⟨b2,0,none⟩),.pointer (some ⟨b3,0,none⟩),.pointer (some ⟨b4,0,none⟩)] w (SRan A σ w (σ.sweepRun (.maker key ahead link id))):=by
 have c0:=B0.cell;have c1:=B1.cell;have c2:=B2.cell;have c3:=B3.cell;have c4:=B4.cell;have e2:w.cell? ⟨A.be,2,none⟩=some (.pointer (some ⟨A.ba,0,none⟩)):=hR.eng 2 rfl;have HPL:=zH (place_still hR.drew id hid);have HU:=zH (fun w'=>unpack_any (σ.word (σ.place id)) hw w');have HL:Hid (∀ w',Rep A σ w'→Calls Tryz.prog 73 #[.pointer (some ⟨A.ba,0,none⟩),zi (((σ.place id:Nat):Int))] w' (Did A w' σ.tick (zu (σ.word (σ.place id):Int)))):=fun w' r=>load_i r (σ.place id) (((σ.place id:Nat):Int)) rfl hpl hcnt
 have HRd:Hid (Rep A σ w.drew):=hR.drew;have HKK:Hid (∀ w',Rep A σ.tick w'→Grow A.L w A.L w'→w'.cell? ⟨b0,0,none⟩=some (.pointer (some ⟨A.be,0,none⟩))∧w'.cell? ⟨b1,0,none⟩=some (zi (id:Int))∧w'.cell? ⟨b2,0,none⟩=some (zi (key:Int))∧w'.cell? ⟨b3,0,none⟩=some (zu (ahead:Int))∧w'.cell? ⟨b4,0,none⟩=some (zu (link:Int))∧w'.cell? ⟨A.be,2,none⟩=some (.pointer (some ⟨A.ba,0,none⟩))):=fun w' r g=>⟨(B0.grow g).cell,(B1.grow g).cell,(B2.grow g).cell,(B3.grow g).cell,(B4.grow g).cell,r.eng 2 rfl⟩
 have HKS:Hid (∀ w' x,Rep A σ.tick w'→Grow A.L w A.L w'→(w'.setCell ⟨A.be,25,none⟩ x).cell? ⟨b0,0,none⟩=some (.pointer (some ⟨A.be,0,none⟩))∧(w'.setCell ⟨A.be,25,none⟩ x).cell? ⟨b1,0,none⟩=some (zi (id:Int))∧(w'.setCell ⟨A.be,25,none⟩ x).cell? ⟨b2,0,none⟩=some (zi (key:Int))∧(w'.setCell ⟨A.be,25,none⟩ x).cell? ⟨b3,0,none⟩=some (zu (ahead:Int))∧(w'.setCell ⟨A.be,25,none⟩ x).cell? ⟨b4,0,none⟩=some (zu (link:Int))∧(w'.setCell ⟨A.be,25,none⟩ x).cell? ⟨A.be,2,none⟩=some (.pointer (some ⟨A.ba,0,none⟩))):=fun w' x r g=>let ⟨r',g'⟩:=r.sweepSet x .now;⟨(B0.grow (g.trans g')).cell,(B1.grow (g.trans g')).cell,(B2.grow (g.trans g')).cell,(B3.grow (g.trans g')).cell,(B4.grow (g.trans g')).cell,r'.eng 2 rfl⟩
 have HM:Hid (∀ w',Rep A σ.tick w'→Calls Tryz.prog 206 #[.pointer (some ⟨A.be,0,none⟩),zi (key:Int),zu (link:Int)] w' (STells A σ.tick w' (some (.on key link)))):=fun w' r=>son_any r key link
 have HG:Hid (Grow A.L w A.L w.drew):=Grow.drew _ _;clear hR hcnt B0 B1 B2 B3 B4;have HRES:σ.sweepRun (.maker key ahead link id)=({σ.tick with sw:=some (.on key link)},false):=by simp only[St.sweepRun,h4];rfl
 rw[HRES];have f1:((stateOf (σ.word (σ.place id)):Int)=4)=False:=by have:=h4;simp at this ⊢;omega
 have f2:((stateOf (σ.word (σ.place id)):Int)==4)=false:=by have:=h4;simp at this ⊢;omega
 clear hid hpl hw h4;generalize (stateOf (σ.word (σ.place id)):Int)=zs at*;generalize (endOf (σ.word (σ.place id)):Int)=ze at*;generalize (σ.word (σ.place id):Int)=hd at*;generalize ((σ.place id:Nat):Int)=ix at*;go_enter Tryz.func204,Tryz.ntmps204;go_wp2_with fail
 go_region_held3 (fun w'=>w'.cell? ⟨b0,0,none⟩=some (.pointer (some ⟨A.be,0,none⟩))∧w'.cell? ⟨b1,0,none⟩=some (zi (id:Int))∧w'.cell? ⟨b2,0,none⟩=some (zi (key:Int))∧w'.cell? ⟨b3,0,none⟩=some (zu (ahead:Int))∧w'.cell? ⟨b4,0,none⟩=some (zu (link:Int))∧w'.cell? ⟨A.be,2,none⟩=some (.pointer (some ⟨A.ba,0,none⟩)))
  (first|exact⟨c0,c1,c2,c3,c4,e2⟩|assumption|go_keep|exact HKK.out _ (by assumption) (by assumption))
  (first|(go_at_call 78;refine HPL.out.mono ?_;rintro e w9 ⟨rfl,rfl⟩)|(go_at_call 73;refine (HL.out _ HRd.out).mono ?_;rintro e w1 ⟨rfl,q1,q2⟩;have q4:=HG.out.trans q2)|(go_at_call 94;refine (HU.out _).mono ?_;rintro e w9 ⟨rfl,rfl⟩))
 obtain⟨d0,d1,d2,d3,d4,d9⟩:=HKK.out _ q1 q4;have HQ1:=zH q1.drew;have HG1:=zH (q4.trans (Grow.drew _ _));go_wp2_with fail
 go_region_held3 (fun w'=>w'.cell? ⟨b0,0,none⟩=some (.pointer (some ⟨A.be,0,none⟩))∧w'.cell? ⟨b1,0,none⟩=some (zi (id:Int))∧w'.cell? ⟨b2,0,none⟩=some (zi (key:Int))∧w'.cell? ⟨b3,0,none⟩=some (zu (ahead:Int))∧w'.cell? ⟨b4,0,none⟩=some (zu (link:Int))∧w'.cell? ⟨A.be,2,none⟩=some (.pointer (some ⟨A.ba,0,none⟩)))
  (first|exact⟨d0,d1,d2,d3,d4,d9⟩|assumption|go_keep|exact HKK.out _ (by assumption) (by assumption)|exact HKS.out _ _ (by assumption) (by assumption))
  (first|(go_at_call 206;refine (HM.out _ HQ1.out).mono ?_;rintro e w2 ⟨v,rfl,p1,p2,p3⟩;obtain⟨fv,fb,fc,e3⟩:=SRep.form p3;subst e3;obtain⟨vo,y25⟩:∃ vo,w2.cell? ⟨A.be,25,none⟩=some vo:=⟨_,p1.eng 25 (v:=A.sv σ.tick.sw) rfl⟩;have z25:=p1.engF 25;have q5:=HG1.out.trans p2;have HP:=zH p3;clear p2 p3))
 go_wp2_with fail;go_ret;obtain⟨A',a1,a2,a3,a4,a5⟩:=p1.sweepPut _ _ HP.out;exact⟨rfl,A',a1,a3,q5.trans a4,a5,fun hc=>hc.keep a2 rfl (q5.trans a4)⟩
theorem give_none {A:Book} {σ:St} {w:World} (hR:Rep A σ w) (hC:CutOk A σ.cut) (hcut:σ.cut=[]):
 Calls Tryz.prog 105 #[.pointer (some ⟨A.be,0,none⟩)] w fun e w'=>e=.returned (.bool false)∧Below w.heap.size w w':=by
 have y:w.cell? ⟨A.be,27,none⟩=some A.vcut:=hR.eng 27 rfl;obtain⟨a,c,e⟩:∃ a c,A.vcut=.slice a 0 c:=by
  rcases hC with ⟨-,h,-⟩|⟨-,k,cap,h,-⟩
  · exact⟨_,_,h⟩
  · rw[hcut] at h;exact⟨_,_,h⟩
 rw[e] at y;clear hR hcut e hC;go_enter Tryz.func105,Tryz.ntmps105;go_wp2;go_ret;exact⟨rfl,Below.refl _ _⟩
theorem calls_index (v:Nat→Value) (k:Nat) (hk:k<8) (w:World):(Instr.index 108 (.agg #[v 0,v 1,v 2,v 3,v 4,v 5,v 6,v 7]) (zi (k:Int))).run Tryz.prog w=.ok (v k) w:=by
 have h:k=0∨k=1∨k=2∨k=3∨k=4∨k=5∨k=6∨k=7:=by omega
 rcases h with rfl|rfl|rfl|rfl|rfl|rfl|rfl|rfl<;>rfl
def behind (seq:Nat) (c:Option Cal):Bool:=match c with|some c=>decide (seq<c.seq)|none=>true
def GaveS (A:Book) (σ:St) (w:World) (link seq:Nat) (rest:List (Nat×Nat)):Ending→World→Prop:=fun e w'=>
 (∃ q,q<8∧behind seq (σ.calls.getD q none)=false∧e=.returned (.bool false)∧Below w.heap.size w w')∨
 ((∀ q,q<8→behind seq (σ.calls.getD q none)=true)∧e=.returned (.bool true)∧∃ A',SOnly A A'∧A'.vsweep=A.vsweep∧Rep A' {σ.give link with cut:=rest} w'∧Grow A.L w A'.L w'∧CutOk A' rest)
theorem give_some {A:Book} {σ:St} {w:World} (hL:Live A σ w) (link seq:Nat) (rest:List (Nat×Nat)) (hv:VL σ link) (hp:PoolOk σ) (hcut:σ.cut=(link,seq)::rest) (hln:σ.cut.length<1000000):
 Calls Tryz.prog 105 #[.pointer (some ⟨A.be,0,none⟩)] w (GaveS A σ w link seq rest):=by
 have hR:=hL.rep;have hck:=hL.sx.cu;rw[hcut] at hck;obtain⟨kk,c,hh,hvc,hn1,hcm,hkl,hct,hc0,hc1⟩:=hck.tail;have he:memOf A σ .cut=.obj A.gcut A.cutCs 230:=by simp only[memOf,hh,cond_true]
 have ylk:w.cell? ⟨A.gcut,2*kk,none⟩=some (zu (link:Int)):=hR.mem.cell he (2*kk) hc0;have ysq:w.cell? ⟨A.gcut,2*kk+1,none⟩=some (zi (seq:Int)):=hR.mem.cell he (2*kk+1) hc1;obtain⟨nr,hnr⟩:∃ nr,nr=rest.length+1:=⟨_,rfl⟩
 rw[←hnr] at hvc hn1;have y27:w.cell? ⟨A.be,27,none⟩=some (.slice (some ⟨A.gcut,2*kk,none⟩) nr c):=(hR.eng 27 rfl).trans (congrArg some hvc);have y3:w.cell? ⟨A.be,3,none⟩=some (.pointer (some ⟨A.bp,0,none⟩)):=hR.eng 3 rfl;obtain⟨vc,hvcc⟩:∃ vc:Nat→Value,vc=A.vcall:=⟨_,rfl⟩
 have z0:w.cell? ⟨A.be,13,none⟩=some (vc 0):=(hR.eng 13 (v:=A.vcall 0) rfl).trans (by rw[hvcc]);have z1:w.cell? ⟨A.be,14,none⟩=some (vc 1):=(hR.eng 14 (v:=A.vcall 1) rfl).trans (by rw[hvcc]);have z2:w.cell? ⟨A.be,15,none⟩=some (vc 2):=(hR.eng 15 (v:=A.vcall 2) rfl).trans (by rw[hvcc]);have z3:w.cell? ⟨A.be,16,none⟩=some (vc 3):=(hR.eng 16 (v:=A.vcall 3) rfl).trans (by rw[hvcc]);have z4:w.cell? ⟨A.be,17,none⟩=some (vc 4):=(hR.eng 17 (v:=A.vcall 4) rfl).trans (by rw[hvcc]);have z5:w.cell? ⟨A.be,18,none⟩=some (vc 5):=(hR.eng 18 (v:=A.vcall 5) rfl).trans (by rw[hvcc]);have z6:w.cell? ⟨A.be,19,none⟩=some (vc 6):=(hR.eng 19 (v:=A.vcall 6) rfl).trans (by rw[hvcc]);have z7:w.cell? ⟨A.be,20,none⟩=some (vc 7):=(hR.eng 20 (v:=A.vcall 7) rfl).trans (by rw[hvcc]);have hnr1:((nr:Int)==0)=false:=by simp;omega
 have hnr2:((nr:Int)=0)=False:=by simp;omega
 have hnr3:(nr=0)=False:=by simp;omega
 have hnr4:((0:Int)<(nr:Int))=True:=by simp;omega
 have hnr5:(0<nr)=True:=by simp;omega
 have HNR:=zH (zA hnr hn1);have HX:=zH (zA hL (zA hv (zA hp (zA hvcc hct))));have HCL:Hid (∀ k,k<8→∀ w1,Below w.heap.size w w1→vc k=.pointer none∧behind seq (σ.calls.getD k none)=true∨∃ (b cq:Nat),vc k=.pointer (some ⟨b,0,none⟩)∧w1.cell? ⟨b,12,none⟩=some (zi (cq:Int))∧behind seq (σ.calls.getD k none)=decide (seq<cq)):=fun k hk w1 hb=>by
  rw[hvcc]
  cases hcc:σ.calls.getD k none with
  |none=>exact .inl ⟨hL.idle k hk hcc,rfl⟩
  |some cc=>
   refine .inr ⟨A.bc k,cc.seq,(hL.call k hk cc hcc).1,?_,rfl⟩;exact (hR.below hb).call hcc 12 rfl
 have HCE:Hid (∀ w1,Below w.heap.size w w1→w1.cell? ⟨A.be,3,none⟩=some (.pointer (some ⟨A.bp,0,none⟩))∧w1.cell? ⟨A.be,27,none⟩=some (.slice (some ⟨A.gcut,2*kk,none⟩) nr c)∧w1.cell? ⟨A.gcut,2*kk,none⟩=some (zu (link:Int))∧w1.cell? ⟨A.gcut,2*kk+1,none⟩=some (zi (seq:Int))):=fun w1 hb=>by
  have r:=hR.below hb;exact⟨r.eng 3 rfl,(r.eng 27 rfl).trans (congrArg some hvc),r.mem.cell he (2*kk) hc0,r.mem.cell he (2*kk+1) hc1⟩
 have HSV:Hid (∀ A' w2,FreeOnly A A'→Rep A' (σ.give link) w2→w2.cell? ⟨A.be,3,none⟩=some (.pointer (some ⟨A.bp,0,none⟩))∧w2.cell? ⟨A.be,27,none⟩=some (.slice (some ⟨A.gcut,2*kk,none⟩) nr c)∧w2.cell? ⟨A.gcut,2*kk,none⟩=some (zu (link:Int))∧w2.cell? ⟨A.gcut,2*kk+1,none⟩=some (zi (seq:Int))):=fun A' w2 hfo r=>by
  obtain⟨L,v,rfl⟩:=hfo;exact⟨r.eng 3 rfl,(r.eng 27 rfl).trans (congrArg some hvc),r.mem.cell (r:=.cut) (b:=A.gcut) (cs:=A.cutCs) (by simp only[memOf,hh,cond_true];rfl) (2*kk) hc0,r.mem.cell (r:=.cut) (b:=A.gcut) (cs:=A.cutCs) (by simp only[memOf,hh,cond_true];rfl) (2*kk+1) hc1⟩
 clear hR hv hp hL hck hct hc0 hc1 hh he hkl hcut hln hvc hvcc hnr hn1;go_enter Tryz.func105,Tryz.ntmps105;go_wp2_with fail
 go_loopw [19] (fun i wr=>∃ k:Nat,k≤8∧i=zi (k:Int)∧Below w.heap.size w wr∧∀ q,q<k→behind seq (σ.calls.getD q none)=true) (fun i _=>8 - (intOf i).toNat)
 case atStart=>exact⟨0,by omega,rfl,Below.refl _ _,fun q h=>absurd h (by omega)⟩
 case round=>
  obtain⟨k,hk,rfl,hb,hbe⟩:=hrel;have HB:=zH (zA hb hbe);clear hb hbe
  by_cases hlt:k<8
  · have k1:((k:Int)<8)=True:=by simp;omega
    have k2:decide ((k:Int)<8)=true:=by simp;omega
    have k3:IntKind.i64.wrap ((k:Int)+1)=(k:Int)+1:=by rw[IntKind.wrap_i64];omega
    have hix:=calls_index vc k hlt;obtain⟨x3,x27,xlk,xsq⟩:=HCE.out _ HB.out.1
    rcases HCL.out k hlt _ HB.out.1 with ⟨e1,e2⟩|⟨b,cq,e1,e2,e3⟩
    · rw[e1] at hix
      have HK:=zH (zA hlt e2);clear hlt hk e2;go_wp2_with (refine wpList_index rfl (.tmp 18) (.tmp 19) 108 rfl (hix _) ?_)
      go_quiet (fail)
      go_wp2_with fail;exact⟨⟨k+1,by have:=HK.out.1;omega,rfl,HB.out.1.trans ⟨rfl,rfl,rfl,Nat.le_refl _,fun _ _=>rfl⟩,fun q hq=>by by_cases h:q=k;rw[h];exact HK.out.2;exact HB.out.2 q (by omega)⟩,by have:=HK.out.1;simp[intOf];omega⟩
    · rw[e1] at hix
      have HK:=zH (zA hlt e3);clear hlt hk e3
      by_cases hq:seq<cq
      · have q1:((cq:Int)≤(seq:Int))=False:=by simp;omega
        have q2:decide ((cq:Int)≤(seq:Int))=false:=by simp;omega
        have q3:(cq≤seq)=False:=by simp;omega
        have q4:decide (cq≤seq)=false:=by simp;omega
        go_wp2_with (refine wpList_index rfl (.tmp 18) (.tmp 19) 108 rfl (hix _) ?_)
        go_quiet (fail)
        go_wp2_with fail;exact⟨⟨k+1,by have:=HK.out.1;omega,rfl,HB.out.1.trans ⟨rfl,rfl,rfl,Nat.le_refl _,fun _ _=>rfl⟩,fun q hqk=>by by_cases h:q=k;rw[h,HK.out.2];simpa using hq;exact HB.out.2 q (by omega)⟩,by have:=HK.out.1;simp[intOf];omega⟩
      · have q1:((cq:Int)≤(seq:Int))=True:=by simp;omega
        have q2:decide ((cq:Int)≤(seq:Int))=true:=by simp;omega
        have q3:(cq≤seq)=True:=by simp;omega
        have q4:decide (cq≤seq)=true:=by simp;omega
        go_wp2_with (refine wpList_index rfl (.tmp 18) (.tmp 19) 108 rfl (hix _) ?_)
        go_quiet (fail)
        go_wp2_with fail;go_ret;exact .inl ⟨k,HK.out.1,by rw[HK.out.2];simpa using hq,rfl,HB.out.1.trans ⟨rfl,rfl,rfl,Nat.le_refl _,fun _ _=>rfl⟩⟩
  · obtain rfl:k=8:=by omega
    have k1:(((8:Nat):Int)<8)=False:=by simp
    have k2:decide (((8:Nat):Int)<8)=false:=by simp
    obtain⟨x3,x27,xlk,xsq⟩:=HCE.out _ HB.out.1;have hRr:=HX.out.1.rep.below HB.out.1;have HGV:=zH (give_any hRr.drew link HX.out.2.1 HX.out.2.2.1);have HBD:=zH ((HB.out.1).drew);clear hRr hk;go_wp2_with fail
    go_region_held3 (fun w'=>w'.cell? ⟨A.be,3,none⟩=some (.pointer (some ⟨A.bp,0,none⟩))∧w'.cell? ⟨A.be,27,none⟩=some (.slice (some ⟨A.gcut,2*kk,none⟩) nr c)∧w'.cell? ⟨A.gcut,2*kk,none⟩=some (zu (link:Int))∧w'.cell? ⟨A.gcut,2*kk+1,none⟩=some (zi (seq:Int)))
     (first|exact⟨x3,x27,xlk,xsq⟩|assumption|go_keep|exact HSV.out _ _ (by assumption) (by assumption))
     (first|(go_at_call 135;refine HGV.out.mono ?_;rintro e w2 ⟨⟨zz,rfl⟩,A',p0,p1,p2⟩))
    obtain⟨_,y27',_⟩:=HSV.out _ _ p0 p1;have z27:=p1.engF 27;have b1:A'.be=A.be:=by obtain⟨L,v,rfl⟩:=p0;rfl
    have hvs:A'.vsweep=A.vsweep:=by obtain⟨L,v,rfl⟩:=p0;rfl
    have hso:SOnly A A':=by obtain⟨L,v,rfl⟩:=p0;exact⟨⟨_,_,_,_,_,_,_,_,rfl⟩,rfl⟩
    rw[b1] at z27;have hck:CutOk {A' with vcut:=.slice (if c=1 then some ⟨A.gcut,2*kk,none⟩ else some ⟨A.gcut,2*kk+2,none⟩) (nr - 1) (c - 1)} rest:=by
     rw[show nr - 1=rest.length by have:=HNR.out.1;omega];obtain⟨L,v,rfl⟩:=p0;exact HX.out.2.2.2.2
    have h1n:((1:Int)≤(nr:Int))=True:=by have:=HNR.out;simp;omega
    have h1n':(1≤nr)=True:=by have:=HNR.out;simp;omega
    have h1c:((1:Int)≤(c:Int))=True:=by have:=HNR.out;simp;omega
    have hc2:¬ ((c:Int)<1):=by have:=HNR.out;omega
    have HF:=zH (zA p1 (zA ((Grow.below (L:=A.L) HBD.out).trans p2) (zA b1 (zA hso (zA hvs hck)))));clear p0 p1 p2 b1 hso hvs hck;go_wp2_with fail
    all_goals
     go_ret;obtain⟨p1,p2,b1,hso,hvs,hck⟩:=HF.out;rw[←b1];refine .inr ⟨HB.out.2,rfl,_,?_,?_,(p1.cutSet _ rest (σ.give link).cuts).1,p2.trans (p1.cutSet _ rest (σ.give link).cuts).2,?_⟩;rotate_left;exact hvs;rotate_left;exact hso.trans ⟨⟨_,_,_,_,_,_,_,_,rfl⟩,rfl⟩
     by_cases hq:c=1
     · rw[if_pos hq] at hck
       have e0:c - 1=0:=by omega
       rw[e0] at hck
       first|exact hck|exact absurd hq (by assumption)
     · rw[if_neg hq] at hck
       first|exact hck|exact absurd (by assumption) hq
def PS (w w':World):Prop:=∀ (g:Nat) (cs:Array Value),w.heap[g]? =some (Obj.cells cs 140)→w'.heap[g]? =w.heap[g]?
theorem PS.trans {w w1 w2:World} (h:PS w w1) (k:PS w1 w2):PS w w2:=fun g cs hg=>(k g cs ((h g cs hg).trans hg)).trans (h g cs hg)
theorem PS.below {w w':World} (h:Below w.heap.size w w'):PS w w':=fun g cs hg=>h.block g (lt_of hg)
theorem PS.grown {w w' : World} {ob : Option Nat} (h : w.grownBy w' ob) (ht : ∀ (g : Nat), ob = some g → ∃ (cs : Array Value) (T : TypeId), w.heap[g]? = some (Obj.cells cs T) ∧ T ≠ 140) : PS w w' := fun g cs hg => h.block g (lt_of hg) (by
  intro e
  obtain⟨cs',T,h1,h2⟩:=ht g e.symm
  rw[hg] at h1
  simp only[Option.some.injEq,Obj.cells.injEq] at h1
  exact h2 h1.2.1.symm)
theorem PS.but {w w' : World} {b : Nat} {cs : Array Value} {T : TypeId} (h : But b w w') (hb : w.heap[b]? = some (.cells cs T)) (hT : T ≠ 140) : PS w w' := fun g cs' hg => h.block g (by
  rintro rfl
  rw[hb] at hg
  simp only[Option.some.injEq,Obj.cells.injEq] at hg
  exact hT hg.2.1)
theorem own_ps {w w':World} {base:Nat} {v:Value} {n:Nat} {xs:List Value} (h:w.ownsRow base 140 2 v n xs) (hp:PS w w'):w'.ownsRow base 140 2 v n xs:=by
 rcases h.2 with ⟨e1,e2⟩|⟨g,cap',cur,hv,hb',hg,hx1,hx2,hx3,hx4⟩
 · exact⟨h.1,.inl ⟨e1,e2⟩⟩
 · exact⟨h.1,.inr ⟨g,cap',cur,hv,hb',(hp g _ hg).trans hg,hx1,hx2,hx3,hx4⟩⟩
def EvO (base:Nat) (w:World):List Ev→List Value→Prop
 |[],xs=>xs=[]
 |e::l,xs=>∃ vp ys,xs=evCs e vp++ys∧w.ownsRow base 140 2 vp e.res.pairs.length (pairCs e.res.pairs)∧EvO base w l ys
theorem EvO.ps {base:Nat} {w w':World} (hp:PS w w'):∀ {l:List Ev} {xs:List Value},EvO base w l xs→EvO base w' l xs
 |[],_,h=>h
 |_::_,_,⟨vp,ys,h1,h2,h3⟩=>⟨vp,ys,h1,own_ps h2 hp,EvO.ps hp h3⟩
theorem EvO.snoc {base:Nat} {w:World} {e:Ev} {vp:Value} (hp:w.ownsRow base 140 2 vp e.res.pairs.length (pairCs e.res.pairs)):∀ {l:List Ev} {xs:List Value},EvO base w l xs→EvO base w (l++[e]) (xs++evCs e vp)
 |[],xs,h=>by
  have h0:xs=[]:=h;subst h0;exact⟨vp,[],by simp,hp,rfl⟩
 |_::_,_,⟨v,ys,h1,h2,h3⟩=>⟨v,ys++evCs e vp,by rw[h1,List.append_assoc],h2,EvO.snoc hp h3⟩
theorem Evs.at {L:Lab} {w:World}:∀ {l:List Ev} {xs:List Value},Evs L w l xs→∀ {k:Nat} {e:Ev},l[k]? =some e→∃ vp,PRow L w vp (pairCs e.res.pairs)∧∀ j,j<12→xs[k*12+j]? =(evCs e vp)[j]?
 |[],_,_,_,_,h=>by cases h
 |e'::l,xs,⟨vp,ys,h1,h2,h3⟩,0,e,h=>by
  obtain rfl:e'=e:=by simpa using h
  refine⟨vp,h2,fun j hj=>?_⟩;rw[h1,Nat.zero_mul,Nat.zero_add,List.getElem?_append_left (by exact hj)]
 |e'::l,xs,⟨vp,ys,h1,h2,h3⟩,k+1,e,h=>by
  obtain⟨vq,g1,g2⟩:=Evs.at h3 (k:=k) (e:=e) (by simpa using h);refine⟨vq,g1,fun j hj=>?_⟩;rw[h1,List.getElem?_append_right (by show 12≤_;omega),show (k+1)*12+j - (evCs e' vp).length=k*12+j by show _ - 12=_;omega];exact g2 j hj
theorem infoEv:(Tryz.prog.info? 138).map (fun i=>(i.zero,i.size,i.bytes))=some (some (.agg #[zi 0,zi 0,zu 0,zi 0,zi 0,zi 0,zi 0,zi 0,zi 0,.slice none 0 0,zi 0,zi 0]),12,112):=by kernel_rfl
theorem own_low {w:World} {base base':Nat} {e:TypeId} {size:Nat} {v:Value} {n:Nat} {xs:List Value} (h:w.ownsRow base e size v n xs) (hb:base'≤base):w.ownsRow base' e size v n xs:=by
 rcases h.2 with ⟨e1,e2⟩|⟨g,cap',cur,hv,hb',hg,hx⟩
 · exact⟨h.1,.inl ⟨e1,e2⟩⟩
 · exact⟨h.1,.inr ⟨g,cap',cur,hv,Nat.le_trans hb hb',hg,hx⟩⟩
theorem own_head {w:World} {base:Nat} {e:TypeId} {size:Nat} {v:Value} {n:Nat} {xs:List Value} (h:w.ownsRow base e size v n xs) (hn:0<n):∃ g cap,v=.slice (some ⟨g,0,none⟩) n cap∧∃ cur,w.heap[g]? =some (.cells cur e):=by
 rcases h.2 with ⟨_,h0⟩|⟨g,cap,cur,hv,hb,hg,hnc,hcm,_⟩
 · omega
 · exact⟨g,cap,hv,cur,hg⟩
theorem tale_any {A:Book} {σ:St} {w:World} (hR:Rep A σ w) (hn:σ.tale.length<100000) (hp:∀ e∈σ.tale,e.res.pairs.length≤1000000):
 Calls Tryz.prog 31 #[.pointer (some ⟨A.be,0,none⟩)] w fun e w'=>∃ v cs,e=.returned v∧w'.ownsRow w.heap.size 138 12 v σ.tale.length cs∧EvO w.heap.size w' σ.tale cs∧Below w.heap.size w w':=by
 obtain⟨ii,hii,hz0,hz1,hz2⟩:=info_parts infoEv;have e24:w.cell? ⟨A.be,24,none⟩=some A.vtale:=hR.eng 24 rfl;obtain⟨ta,tc,hv,_⟩:=Ow.own_form (hR.mem.all .tale).1;rw[hv] at e24;obtain⟨n,hnn⟩:∃ n,n=σ.tale.length:=⟨_,rfl⟩
 rw[←hnn] at hv e24 hn ⊢;have H0:=zH (zA hR (zA hn (zA hp (zA hv hnn))));clear hR hn hp hv hnn;go_enter Tryz.func31,Tryz.ntmps31;go_wp2
 go_loopw [3,11] (fun l i wr=>∃ (k:Nat) (cs:List Value),i=zi (k:Int)∧k≤n∧wr.ownsRow w.heap.size 138 12 l k cs∧EvO w.heap.size wr (σ.tale.take k) cs∧Below w.heap.size w wr) (fun _ i _=>n - (intOf i).toNat)
 case atStart=>exact⟨0,[],rfl,Nat.zero_le _,World.ownsRow_nil _ _ _ _,rfl,Below.refl _ _⟩
 case round=>
  obtain⟨k,cs,rfl,hkn,hown,hev,hb⟩:=hrel;obtain⟨la,lc,rfl,hlc1,hlc2,_⟩:=Ow.own_form hown;obtain⟨hR,hn,hp,hv,hnn⟩:=H0.out
  by_cases hlt:k<n
  · obtain⟨ev,hek⟩:∃ ev,σ.tale[k]? =some ev:=⟨_,List.getElem?_eq_getElem (by omega)⟩
    have hr:=hR.below hb;have ht:wr.ownsRow 0 138 12 A.vtale σ.tale.length A.taleCs:=(hr.mem.all .tale).1;rw[←hnn] at ht;obtain⟨gt,tc',hv',_⟩:=own_head ht (by omega);rw[hv] at hv';simp only[Value.slice.injEq] at hv';obtain⟨rfl,_,rfl⟩:=hv';obtain⟨vp,hpr,hcs⟩:=Evs.at hr.ev hek;obtain⟨pa,pn,pc,rfl⟩:=frow_form hpr.1;have hpn:ev.res.pairs.length=pn:=by
     obtain⟨_,_,_,e0,h1,_⟩:=hpr.1;simp only[Value.slice.injEq] at e0;rw[pairCs_len] at h1;omega
    have hpl:=hp ev (List.mem_of_getElem? hek);rw[hv] at ht;have hX:∀ j v,j<12→(evCs ev (.slice pa pn pc))[j]? =some v→wr.cell? ⟨gt,k*12+j,none⟩=some v:=fun j v hj hj2=>by
     rw[ht.cellAt (k*12+j) (by omega),hcs j hj];exact hj2
    have X0:=hX 0 _ (by omega) rfl;rw[Nat.add_zero] at X0;have X1:=hX 1 _ (by omega) rfl;have X2:=hX 2 _ (by omega) rfl;have X3:=hX 3 _ (by omega) rfl;have X4:=hX 4 _ (by omega) rfl;have X5:=hX 5 _ (by omega) rfl;have X6:=hX 6 _ (by omega) rfl;have X7:=hX 7 _ (by omega) rfl;have X8:=hX 8 _ (by omega) rfl;have X9:=hX 9 _ (by omega) rfl;have X10:=hX 10 _ (by omega) rfl;have X11:=hX 11 _ (by omega) rfl;have HC:Hid (∀ w1,Below wr.heap.size wr w1→Calls Tryz.prog 54 #[.agg #[zi (ev.res.e:Int),zi (ev.res.value:Int),.slice pa pn pc,zi (ev.res.over:Int),zi (ev.res.reason:Int)]] w1 fun e w'=>∃ qa qc,e=.returned (.agg #[zi (ev.res.e:Int),zi (ev.res.value:Int),.slice qa pn qc,zi (ev.res.over:Int),zi (ev.res.reason:Int)])∧w'.ownsRow w1.heap.size 140 2 (.slice qa pn qc) pn (pairCs ev.res.pairs)∧Below w1.heap.size w1 w'):=fun w1 hb1=>copied_any w1 _ _ _ _ pa pn pc ev.res.pairs (FRow.row (hpr.1.grow (Grow.below hb1))) hpn (by omega)
    have b0:((k:Int)<(n:Int))=True:=by simp;omega
    have b1:(k:Int)<(n:Int):=by omega
    have b2:(0:Int)≤(k:Int):=by omega
    have n3:IntKind.i64.wrap ((k:Int)+1)=(k:Int)+1:=by rw[IntKind.wrap_i64];omega
    have HX:=zH (zA hown (zA hev (zA hb (zA hek (zA hlt (zA hpn (zA hn hnn)))))));clear hown hev hb hek hlt hpn hn hnn hR hp hv hr ht hpr hcs hpl hX hkn;have HCA:Hid (∀ w1,w1=wr.alloc (.cells #[zi (ev.kind:Int),zi (ev.t:Int),zu (ev.n:Int),zi (ev.op.kind:Int),zi (ev.op.key:Int),zi (ev.op.hi:Int),zi (ev.op.value:Int),zi (ev.res.e:Int),zi (ev.res.value:Int),.slice pa pn pc,zi (ev.res.over:Int),zi (ev.res.reason:Int)] 138)→(w1.cell? ⟨wr.heap.size,7,none⟩=some (zi (ev.res.e:Int))∧w1.cell? ⟨wr.heap.size,8,none⟩=some (zi (ev.res.value:Int))∧w1.cell? ⟨wr.heap.size,9,none⟩=some (.slice pa pn pc)∧w1.cell? ⟨wr.heap.size,10,none⟩=some (zi (ev.res.over:Int))∧w1.cell? ⟨wr.heap.size,11,none⟩=some (zi (ev.res.reason:Int)))):=by
     rintro w1 rfl;have h:=heap_alloc_new wr (.cells #[zi (ev.kind:Int),zi (ev.t:Int),zu (ev.n:Int),zi (ev.op.kind:Int),zi (ev.op.key:Int),zi (ev.op.hi:Int),zi (ev.op.value:Int),zi (ev.res.e:Int),zi (ev.res.value:Int),.slice pa pn pc,zi (ev.res.over:Int),zi (ev.res.reason:Int)] 138);refine⟨?_,?_,?_,?_,?_⟩<;>(rw[cell_of_row _ _ _ _ _ _ h];rfl)
    go_upto_region 5 with fail
    have hb1:Below wr.heap.size wr (wr.alloc (.cells #[zi (ev.kind:Int),zi (ev.t:Int),zu (ev.n:Int),zi (ev.op.kind:Int),zi (ev.op.key:Int),zi (ev.op.hi:Int),zi (ev.op.value:Int),zi (ev.res.e:Int),zi (ev.res.value:Int),.slice pa pn pc,zi (ev.res.over:Int),zi (ev.res.reason:Int)] 138)):=(Below.refl _ _).alloc (Nat.le_refl _) _;have h1:=heap_alloc_new wr (.cells #[zi (ev.kind:Int),zi (ev.t:Int),zu (ev.n:Int),zi (ev.op.kind:Int),zi (ev.op.key:Int),zi (ev.op.hi:Int),zi (ev.op.value:Int),zi (ev.res.e:Int),zi (ev.res.value:Int),.slice pa pn pc,zi (ev.res.over:Int),zi (ev.res.reason:Int)] 138);obtain⟨y7,y8,y9,y10,y11⟩:=HCA.out _ rfl;have HCC:=zH (HC.out _ hb1);have hsz:(wr.alloc (.cells #[zi (ev.kind:Int),zi (ev.t:Int),zu (ev.n:Int),zi (ev.op.kind:Int),zi (ev.op.key:Int),zi (ev.op.hi:Int),zi (ev.op.value:Int),zi (ev.res.e:Int),zi (ev.res.value:Int),.slice pa pn pc,zi (ev.res.over:Int),zi (ev.res.reason:Int)] 138)).heap.size=wr.heap.size+1:=by simp
    have H1:=zH (zA hb1 (zA h1 hsz));clear hb1 h1 HC HCA X0 X1 X2 X3 X4 X5 X6 X7 X8 X9 X10 X11 hsz;generalize wr.alloc _=w1 at*;go_upto_region 6 with (first|(go_at_call 54;refine HCC.out.mono ?_;rintro e w2 ⟨qa,qc,rfl,q1,q2⟩;have hb2:=H1.out.1.trans (q2.mono H1.out.1.size);have h2:w2.heap[wr.heap.size]? =some (.cells #[zi (ev.kind:Int),zi (ev.t:Int),zu (ev.n:Int),zi (ev.op.kind:Int),zi (ev.op.key:Int),zi (ev.op.hi:Int),zi (ev.op.value:Int),zi (ev.res.e:Int),zi (ev.res.value:Int),.slice pa pn pc,zi (ev.res.over:Int),zi (ev.res.reason:Int)] 138):=(q2.block _ (by rw[H1.out.2.2];omega)).trans H1.out.2.1;have H2:=zH (zA q1 (zA q2 (zA hb2 h2)));have thr:=there_of h2;clear q1 q2 hb2 h2)|(refine wpList_store_mid rfl 42 (.tmp 18) (.tmp 17) rfl wr.heap.size 7 #[zi (ev.res.e:Int),zi (ev.res.value:Int),.slice qa pn qc,zi (ev.res.over:Int),zi (ev.res.reason:Int)] rfl rfl (by intro j hj;have h:=thr (7+j) (by simp at hj ⊢;omega);simpa [Nat.add_assoc] using h) (by kernel_rfl) (by simp[Value.oneCell']) ?_;generalize hws:World.setCells _ _ _ _=w3))
    obtain⟨q1,q2,hb2,h2⟩:=H2.out;have h3:w3.heap[wr.heap.size]? =some (.cells #[zi (ev.kind:Int),zi (ev.t:Int),zu (ev.n:Int),zi (ev.op.kind:Int),zi (ev.op.key:Int),zi (ev.op.hi:Int),zi (ev.op.value:Int),zi (ev.res.e:Int),zi (ev.res.value:Int),.slice qa pn qc,zi (ev.res.over:Int),zi (ev.res.reason:Int)] 138):=by
     rw[←hws];have g1:=heap_setCell_same h2 7 (zi (ev.res.e:Int));have g2:=heap_setCell_same g1 8 (zi (ev.res.value:Int));have g3:=heap_setCell_same g2 9 (.slice qa pn qc);have g4:=heap_setCell_same g3 10 (zi (ev.res.over:Int));have g5:=heap_setCell_same g4 11 (zi (ev.res.reason:Int));exact g5
    have hbut:But wr.heap.size w2 w3:=by rw[←hws];exact But.setCells _ _ _ _
    obtain⟨hown,hev,hb,hek,hlt,hpn,hn,hnn⟩:=HX.out;have hsame:∀ b,b<wr.heap.size→w3.heap[b]? =wr.heap[b]? :=fun b hb'=>(hbut.block b (by omega)).trans (hb2.block b hb')
    have hown3:=own_same (w':=w3.alloc (.cells #[zi (ev.kind:Int),zi (ev.t:Int),zu (ev.n:Int),zi (ev.op.kind:Int),zi (ev.op.key:Int),zi (ev.op.hi:Int),zi (ev.op.value:Int),zi (ev.res.e:Int),zi (ev.res.value:Int),.slice qa pn qc,zi (ev.res.over:Int),zi (ev.res.reason:Int)] 138)) hown fun g hg=>(heap_alloc_old _ _ (Nat.lt_of_lt_of_le (hown.lt g hg).2 (by rw[hbut.size];exact hb2.size))).trans (hsame g (hown.lt g hg).2)
    have ps3:PS wr (w3.alloc (.cells #[zi (ev.kind:Int),zi (ev.t:Int),zu (ev.n:Int),zi (ev.op.kind:Int),zi (ev.op.key:Int),zi (ev.op.hi:Int),zi (ev.op.value:Int),zi (ev.res.e:Int),zi (ev.res.value:Int),.slice qa pn qc,zi (ev.res.over:Int),zi (ev.res.reason:Int)] 138)):=((PS.below hb2).trans (PS.but hbut h2 (by decide))).trans (PS.below ((Below.refl _ _).alloc (Nat.le_refl _) _));have ps2:PS w2 (w3.alloc (.cells #[zi (ev.kind:Int),zi (ev.t:Int),zu (ev.n:Int),zi (ev.op.kind:Int),zi (ev.op.key:Int),zi (ev.op.hi:Int),zi (ev.op.value:Int),zi (ev.res.e:Int),zi (ev.res.value:Int),.slice qa pn qc,zi (ev.res.over:Int),zi (ev.res.reason:Int)] 138)):=(PS.but hbut h2 (by decide)).trans (PS.below ((Below.refl _ _).alloc (Nat.le_refl _) _));have hpr:(w3.alloc (.cells #[zi (ev.kind:Int),zi (ev.t:Int),zu (ev.n:Int),zi (ev.op.kind:Int),zi (ev.op.key:Int),zi (ev.op.hi:Int),zi (ev.op.value:Int),zi (ev.res.e:Int),zi (ev.res.value:Int),.slice qa pn qc,zi (ev.res.over:Int),zi (ev.res.reason:Int)] 138)).ownsRow w.heap.size 140 2 (.slice qa pn qc) pn (pairCs ev.res.pairs):=own_low (own_ps q1 ps2) (by rw[H1.out.2.2];have:=hb.size;omega);have hb3:Below w.heap.size w (w3.alloc (.cells #[zi (ev.kind:Int),zi (ev.t:Int),zu (ev.n:Int),zi (ev.op.kind:Int),zi (ev.op.key:Int),zi (ev.op.hi:Int),zi (ev.op.value:Int),zi (ev.res.e:Int),zi (ev.res.value:Int),.slice qa pn qc,zi (ev.res.over:Int),zi (ev.res.reason:Int)] 138)):=by
     refine Below.alloc ⟨?_,?_,?_,?_,?_⟩ (by rw[hbut.size];exact Nat.le_trans hb.size hb2.size) _
     · exact hbut.os.trans (hb2.os.trans hb.os)
     · exact hbut.tape.trans (hb2.tape.trans hb.tape)
     · exact hbut.output.trans (hb2.output.trans hb.output)
     · rw[hbut.size];exact Nat.le_trans hb.size hb2.size
     · exact fun b hb'=>(hsame b (Nat.lt_of_lt_of_le hb' hb.size)).trans (hb.block b hb')
    have htyp:∀ (g:Nat),(Value.slice la k lc).ownBlock=some g→∃ (cs:Array Value) (T:TypeId),(w3.alloc (.cells #[zi (ev.kind:Int),zi (ev.t:Int),zu (ev.n:Int),zi (ev.op.kind:Int),zi (ev.op.key:Int),zi (ev.op.hi:Int),zi (ev.op.value:Int),zi (ev.res.e:Int),zi (ev.res.value:Int),.slice qa pn qc,zi (ev.res.over:Int),zi (ev.res.reason:Int)] 138)).heap[g]? =some (Obj.cells cs T)∧T≠140:=fun g hg=>by
     rcases hown3.2 with ⟨e0,_⟩|⟨g',cap,cur,hv,_,hgc,_⟩
     · simp only[Value.slice.injEq] at e0
       rw[e0.1] at hg;cases hg
     · rw[hv] at hg
       obtain rfl:g'=g:=by simpa [Value.ownBlock] using hg
       exact⟨cur,_,hgc,by decide⟩
    have HZ:=zH (zA hown3 (zA (hev.ps ps3) (zA hpr (zA hb3 (zA htyp (zA hek (zA hlt (zA hpn hn))))))));have Z0:=(show w3.cell? ⟨wr.heap.size,0,none⟩=some _ by rw[cell_of_row _ _ _ _ _ _ h3];rfl)
    have Z1:=(show w3.cell? ⟨wr.heap.size,1,none⟩=some _ by rw[cell_of_row _ _ _ _ _ _ h3];rfl)
    have Z2:=(show w3.cell? ⟨wr.heap.size,2,none⟩=some _ by rw[cell_of_row _ _ _ _ _ _ h3];rfl)
    have Z3:=(show w3.cell? ⟨wr.heap.size,3,none⟩=some _ by rw[cell_of_row _ _ _ _ _ _ h3];rfl)
    have Z4:=(show w3.cell? ⟨wr.heap.size,4,none⟩=some _ by rw[cell_of_row _ _ _ _ _ _ h3];rfl)
    have Z5:=(show w3.cell? ⟨wr.heap.size,5,none⟩=some _ by rw[cell_of_row _ _ _ _ _ _ h3];rfl)
    have Z6:=(show w3.cell? ⟨wr.heap.size,6,none⟩=some _ by rw[cell_of_row _ _ _ _ _ _ h3];rfl)
    have Z7:=(show w3.cell? ⟨wr.heap.size,7,none⟩=some _ by rw[cell_of_row _ _ _ _ _ _ h3];rfl)
    have Z8:=(show w3.cell? ⟨wr.heap.size,8,none⟩=some _ by rw[cell_of_row _ _ _ _ _ _ h3];rfl)
    have Z9:=(show w3.cell? ⟨wr.heap.size,9,none⟩=some _ by rw[cell_of_row _ _ _ _ _ _ h3];rfl)
    have Z10:=(show w3.cell? ⟨wr.heap.size,10,none⟩=some _ by rw[cell_of_row _ _ _ _ _ _ h3];rfl)
    have Z11:=(show w3.cell? ⟨wr.heap.size,11,none⟩=some _ by rw[cell_of_row _ _ _ _ _ _ h3];rfl)
    clear q1 q2 hb2 h2 h3 hbut hown hev hb hek hlt hpn hn hnn hsame hown3 ps3 ps2 hpr hb3 htyp H2 HX H1 HCC hws thr y7 y8 y9 y10 y11;go_wp2_with (refine Ow.wpList_append_to _ rfl (.tmp 19) (.tmp 21) 66 rfl w.heap.size 138 ii _ 12 112 Tryz.underlying66 hii hz0 hz1 hz2 rfl (by decide) (.slice la k lc) k cs rfl HZ.out.1 ⟨w3.heap.size,0,none⟩ 1 1 (by omega) [zi (ev.kind:Int),zi (ev.t:Int),zu (ev.n:Int),zi (ev.op.kind:Int),zi (ev.op.key:Int),zi (ev.op.hi:Int),zi (ev.op.value:Int),zi (ev.res.e:Int),zi (ev.res.value:Int),.slice qa pn qc,zi (ev.res.over:Int),zi (ev.res.reason:Int)] rfl rfl (fun j u hu=>Ow.new_row w3 [zi (ev.kind:Int),zi (ev.t:Int),zu (ev.n:Int),zi (ev.op.kind:Int),zi (ev.op.key:Int),zi (ev.op.hi:Int),zi (ev.op.value:Int),zi (ev.res.e:Int),zi (ev.res.value:Int),.slice qa pn qc,zi (ev.res.over:Int),zi (ev.res.reason:Int)] _ w3.heap.size (by simp) j u hu) (by intro u hu;simp at hu;rcases hu with rfl|rfl|rfl|rfl|rfl|rfl|rfl|rfl|rfl|rfl|rfl|rfl<;>rfl) (by have:=HZ.out.2.2.2.2.2.2.1;have:=HZ.out.2.2.2.2.2.2.2.2;unfold maxLen;omega) (by have:=HZ.out.2.2.2.2.2.2.1;have:=HZ.out.2.2.2.2.2.2.2.2;omega) (HZ.out.2.2.2.1.size) ?_;intro v' w4 q1 q2 q3;obtain⟨av,cv,rfl,_⟩:=Ow.own_form q1;have HY:=zH (zA q1 q2);clear q1 q2 q3)
    go_roundw
    case rel=>
     obtain⟨z1,z2,z3,z4,z5,z6,z7,z8,z9⟩:=HZ.out;obtain⟨q1,q2⟩:=HY.out;have ps4:=PS.grown q2 z5;refine⟨k+1,cs++[zi (ev.kind:Int),zi (ev.t:Int),zu (ev.n:Int),zi (ev.op.kind:Int),zi (ev.op.key:Int),zi (ev.op.hi:Int),zi (ev.op.value:Int),zi (ev.res.e:Int),zi (ev.res.value:Int),.slice qa pn qc,zi (ev.res.over:Int),zi (ev.res.reason:Int)],rfl,z7,q1,?_,⟨q2.os.trans z4.os,q2.tape.trans z4.tape,q2.output.trans z4.output,Nat.le_trans z4.size q2.size,fun b hb=>(q2.block b (Nat.lt_of_lt_of_le hb z4.size) (fun e=>?_)).trans (z4.block b hb)⟩⟩
     · rw[List.take_add_one,z6]
       have h9:EvO w.heap.size w4 (σ.tale.take k++[ev]) (cs++evCs ev (.slice qa pn qc)):=(z2.ps ps4).snoc (by rw[z8];exact own_ps z3 ps4);exact h9
     · have:=(z1.lt b e.symm).1
       omega
    case measure=>have:=HZ.out.2.2.2.2.2.2.1;simp[intOf];omega
  · obtain rfl:k=n:=by omega
    have b0:((k:Int)<(k:Int))=False:=by simp
    have HX:=zH (zA hown (zA hev (zA hb hnn)));clear hown hev hb hnn hlt hkn hn hp hv hR;go_wp2;go_ret;obtain⟨hown,hev,hb,hnn⟩:=HX.out;rw[hnn,List.take_length] at hev;exact⟨_,cs,rfl,hown,hev,hb⟩
end Go.Proofs.YtbefcdjcefmicaaGreat.Em
