import Derived.Test.YthicolbbmjfkfaaGreatQp16
import Derived.Test.YthicolbbmjfkfaaGreatQp21
namespace Go.Proofs.YthicolbbmjfkfaaGreat.Em
open Go.ChangeShapes Go.WideShapes Go.ChangeAt Go.RowKit En
set_option linter.unusedVariables false
set_option linter.unusedSimpArgs false
set_option maxRecDepth 100000
set_option maxHeartbeats 1600000
variable {A:Book} {σ:St} {w:World}
theorem k_smaker_y (hR:Rep A σ w) (key ahead link id:Nat) (hid:id≤65535) (hpl:σ.place id<σ.words.length) (hw:σ.word (σ.place id)<18446744073709551616) (h4:(stateOf (σ.word (σ.place id))=4)=True) (hcnt:σ.count<4000000000000000000) (b0:Nat) (b1:Nat) (b2:Nat) (b3:Nat) (b4:Nat) (B0:Box A.L w b0 (.pointer (some ⟨A.be,0,none⟩))) (B1:Box A.L w b1 (zi (id:Int))) (B2:Box A.L w b2 (zi (key:Int))) (B3:Box A.L w b3 (zu (ahead:Int))) (B4:Box A.L w b4 (zu (link:Int))):
 Calls Tryz.prog 195 #[.pointer (some ⟨b0,0,none⟩),.pointer (some ⟨b1,0,none⟩),.pointer (some ⟨b2,0,none⟩),.pointer (some ⟨b3,0,none⟩),.pointer (some ⟨b4,0,none⟩)] w (SRan A σ w (σ.sweepRun (.maker key ahead link id))):=by
 have c0:=B0.cell;have c1:=B1.cell;have c2:=B2.cell;have c3:=B3.cell;have c4:=B4.cell;have e2:=hR.z2;have HPL:=zH (place_still hR.drew id hid);have HU:=zH (fun w'=>unpack_any (σ.word (σ.place id)) hw w');have HL:Hid (∀ w',Rep A σ w'→Calls Tryz.prog 42 #[.pointer (some ⟨A.ba,0,none⟩),zi (((σ.place id:Nat):Int))] w' (Did A w' σ.tick (zu (σ.word (σ.place id):Int)))):=fun w' r=>load_i r (σ.place id) (((σ.place id:Nat):Int)) rfl hpl hcnt
 have HRd:Hid (Rep A σ w.drew):=hR.drew;have HKK:Hid (∀ w',Rep A σ.tick w'→Grow A.L w A.L w'→w'.cell? ⟨b0,0,none⟩=some (.pointer (some ⟨A.be,0,none⟩))∧w'.cell? ⟨b1,0,none⟩=some (zi (id:Int))∧w'.cell? ⟨b2,0,none⟩=some (zi (key:Int))∧w'.cell? ⟨b3,0,none⟩=some (zu (ahead:Int))∧w'.cell? ⟨b4,0,none⟩=some (zu (link:Int))∧w'.cell? ⟨A.be,2,none⟩=some (.pointer (some ⟨A.ba,0,none⟩))):=fun w' r g=>⟨(B0.grow g).cell,(B1.grow g).cell,(B2.grow g).cell,(B3.grow g).cell,(B4.grow g).cell,r.eng 2 rfl⟩
 have HKS:Hid (∀ w' x,Rep A σ.tick w'→Grow A.L w A.L w'→(w'.setCell ⟨A.be,25,none⟩ x).cell? ⟨b0,0,none⟩=some (.pointer (some ⟨A.be,0,none⟩))∧(w'.setCell ⟨A.be,25,none⟩ x).cell? ⟨b1,0,none⟩=some (zi (id:Int))∧(w'.setCell ⟨A.be,25,none⟩ x).cell? ⟨b2,0,none⟩=some (zi (key:Int))∧(w'.setCell ⟨A.be,25,none⟩ x).cell? ⟨b3,0,none⟩=some (zu (ahead:Int))∧(w'.setCell ⟨A.be,25,none⟩ x).cell? ⟨b4,0,none⟩=some (zu (link:Int))∧(w'.setCell ⟨A.be,25,none⟩ x).cell? ⟨A.be,2,none⟩=some (.pointer (some ⟨A.ba,0,none⟩))):=fun w' x r g=>let ⟨r',g'⟩:=r.sweepSet x .now;⟨(B0.grow (g.trans g')).cell,(B1.grow (g.trans g')).cell,(B2.grow (g.trans g')).cell,(B3.grow (g.trans g')).cell,(B4.grow (g.trans g')).cell,r'.eng 2 rfl⟩
 have HM:Hid (∀ w',Rep A σ.tick w'→Calls Tryz.prog 196 #[.pointer (some ⟨A.be,0,none⟩),zi (key:Int),zu (ahead:Int),zu (link:Int)] w' (STells A σ.tick w' (some (.unlink key ahead link)))):=fun w' r=>sunlink_any r key ahead link
 have HG:=zG A.L w;clear hR hcnt B0 B1 B2 B3 B4;have HRES:σ.sweepRun (.maker key ahead link id)=({σ.tick with sw:=some (.unlink key ahead link)},false):=by simp only[St.sweepRun,h4];rfl
 rw[HRES];have f1:((stateOf (σ.word (σ.place id)):Int)=4)=True:=by have:=h4;simp at this ⊢;omega
 have f2:((stateOf (σ.word (σ.place id)):Int)==4)=true:=by have:=h4;simp at this ⊢;omega
 clear hid hpl hw h4;generalize (stateOf (σ.word (σ.place id)):Int)=zs at*;generalize (endOf (σ.word (σ.place id)):Int)=ze at*;generalize (σ.word (σ.place id):Int)=hd at*;generalize ((σ.place id:Nat):Int)=ix at*;go_enter Tryz.func195,Tryz.ntmps195;go_wp2_with fail
 go_region_held3 (fun w'=>w'.cell? ⟨b0,0,none⟩=some (.pointer (some ⟨A.be,0,none⟩))∧w'.cell? ⟨b1,0,none⟩=some (zi (id:Int))∧w'.cell? ⟨b2,0,none⟩=some (zi (key:Int))∧w'.cell? ⟨b3,0,none⟩=some (zu (ahead:Int))∧w'.cell? ⟨b4,0,none⟩=some (zu (link:Int))∧w'.cell? ⟨A.be,2,none⟩=some (.pointer (some ⟨A.ba,0,none⟩)))
  (first|exact⟨c0,c1,c2,c3,c4,e2⟩|assumption|go_keep|exact HKK.out _ (by assumption) (by assumption))
  (first|(go_at_call 48;refine HPL.out.mono ?_;rintro e w9 ⟨rfl,rfl⟩)|(go_at_call 42;refine (HL.out _ HRd.out).mono ?_;rintro e w1 ⟨rfl,q1,q2⟩;have q4:=HG.out.trans q2)|(go_at_call 109;refine (HU.out _).mono ?_;rintro e w9 ⟨rfl,rfl⟩))
 obtain⟨d0,d1,d2,d3,d4,d9⟩:=HKK.out _ q1 q4;have HQ1:=zH q1.drew;have HG1:=zH (q4.trans (Grow.drew _ _));go_wp2_with fail
 go_region_held3 (fun w'=>w'.cell? ⟨b0,0,none⟩=some (.pointer (some ⟨A.be,0,none⟩))∧w'.cell? ⟨b1,0,none⟩=some (zi (id:Int))∧w'.cell? ⟨b2,0,none⟩=some (zi (key:Int))∧w'.cell? ⟨b3,0,none⟩=some (zu (ahead:Int))∧w'.cell? ⟨b4,0,none⟩=some (zu (link:Int))∧w'.cell? ⟨A.be,2,none⟩=some (.pointer (some ⟨A.ba,0,none⟩)))
  (first|exact⟨d0,d1,d2,d3,d4,d9⟩|assumption|go_keep|exact HKK.out _ (by assumption) (by assumption)|exact HKS.out _ _ (by assumption) (by assumption))
  (first|(go_at_call 196;refine (HM.out _ HQ1.out).mono ?_;rintro e w2 ⟨v,rfl,p1,p2,p3⟩;obtain⟨fv,fb,fc,e3⟩:=SRep.form p3;subst e3;obtain⟨vo,y25⟩:∃ vo,w2.cell? ⟨A.be,25,none⟩=some vo:=⟨_,p1.eng 25 (v:=A.sv σ.tick.sw) rfl⟩;have z25:=p1.engF 25;have q5:=HG1.out.trans p2;have HP:=zH p3;clear p2 p3))
 go_wp2_with fail;go_ret;obtain⟨A',a1,a2,a3,a4,a5⟩:=p1.sweepPut _ _ HP.out;exact⟨rfl,A',a1,a3,q5.trans a4,a5,fun hc=>hc.keep a2 rfl (q5.trans a4)⟩
theorem k_smaker_n (hR:Rep A σ w) (key ahead link id:Nat) (hid:id≤65535) (hpl:σ.place id<σ.words.length) (hw:σ.word (σ.place id)<18446744073709551616) (h4:(stateOf (σ.word (σ.place id))=4)=False) (hcnt:σ.count<4000000000000000000) (b0:Nat) (b1:Nat) (b2:Nat) (b3:Nat) (b4:Nat) (B0:Box A.L w b0 (.pointer (some ⟨A.be,0,none⟩))) (B1:Box A.L w b1 (zi (id:Int))) (B2:Box A.L w b2 (zi (key:Int))) (B3:Box A.L w b3 (zu (ahead:Int))) (B4:Box A.L w b4 (zu (link:Int))):
 Calls Tryz.prog 195 #[.pointer (some ⟨b0,0,none⟩),.pointer (some ⟨b1,0,none⟩),.pointer (some ⟨b2,0,none⟩),.pointer (some ⟨b3,0,none⟩),.pointer (some ⟨b4,0,none⟩)] w (SRan A σ w (σ.sweepRun (.maker key ahead link id))):=by
 have c0:=B0.cell;have c1:=B1.cell;have c2:=B2.cell;have c3:=B3.cell;have c4:=B4.cell;have e2:=hR.z2;have HPL:=zH (place_still hR.drew id hid);have HU:=zH (fun w'=>unpack_any (σ.word (σ.place id)) hw w');have HL:Hid (∀ w',Rep A σ w'→Calls Tryz.prog 42 #[.pointer (some ⟨A.ba,0,none⟩),zi (((σ.place id:Nat):Int))] w' (Did A w' σ.tick (zu (σ.word (σ.place id):Int)))):=fun w' r=>load_i r (σ.place id) (((σ.place id:Nat):Int)) rfl hpl hcnt
 have HRd:Hid (Rep A σ w.drew):=hR.drew;have HKK:Hid (∀ w',Rep A σ.tick w'→Grow A.L w A.L w'→w'.cell? ⟨b0,0,none⟩=some (.pointer (some ⟨A.be,0,none⟩))∧w'.cell? ⟨b1,0,none⟩=some (zi (id:Int))∧w'.cell? ⟨b2,0,none⟩=some (zi (key:Int))∧w'.cell? ⟨b3,0,none⟩=some (zu (ahead:Int))∧w'.cell? ⟨b4,0,none⟩=some (zu (link:Int))∧w'.cell? ⟨A.be,2,none⟩=some (.pointer (some ⟨A.ba,0,none⟩))):=fun w' r g=>⟨(B0.grow g).cell,(B1.grow g).cell,(B2.grow g).cell,(B3.grow g).cell,(B4.grow g).cell,r.eng 2 rfl⟩
 have HKS:Hid (∀ w' x,Rep A σ.tick w'→Grow A.L w A.L w'→(w'.setCell ⟨A.be,25,none⟩ x).cell? ⟨b0,0,none⟩=some (.pointer (some ⟨A.be,0,none⟩))∧(w'.setCell ⟨A.be,25,none⟩ x).cell? ⟨b1,0,none⟩=some (zi (id:Int))∧(w'.setCell ⟨A.be,25,none⟩ x).cell? ⟨b2,0,none⟩=some (zi (key:Int))∧(w'.setCell ⟨A.be,25,none⟩ x).cell? ⟨b3,0,none⟩=some (zu (ahead:Int))∧(w'.setCell ⟨A.be,25,none⟩ x).cell? ⟨b4,0,none⟩=some (zu (link:Int))∧(w'.setCell ⟨A.be,25,none⟩ x).cell? ⟨A.be,2,none⟩=some (.pointer (some ⟨A.ba,0,none⟩))):=fun w' x r g=>let ⟨r',g'⟩:=r.sweepSet x .now;⟨(B0.grow (g.trans g')).cell,(B1.grow (g.trans g')).cell,(B2.grow (g.trans g')).cell,(B3.grow (g.trans g')).cell,(B4.grow (g.trans g')).cell,r'.eng 2 rfl⟩
 have HM:Hid (∀ w',Rep A σ.tick w'→Calls Tryz.prog 197 #[.pointer (some ⟨A.be,0,none⟩),zi (key:Int),zu (link:Int)] w' (STells A σ.tick w' (some (.on key link)))):=fun w' r=>son_any r key link
 have HG:=zG A.L w;clear hR hcnt B0 B1 B2 B3 B4;have HRES:σ.sweepRun (.maker key ahead link id)=({σ.tick with sw:=some (.on key link)},false):=by simp only[St.sweepRun,h4];rfl
 rw[HRES];have f1:((stateOf (σ.word (σ.place id)):Int)=4)=False:=by have:=h4;simp at this ⊢;omega
 have f2:((stateOf (σ.word (σ.place id)):Int)==4)=false:=by have:=h4;simp at this ⊢;omega
 clear hid hpl hw h4;generalize (stateOf (σ.word (σ.place id)):Int)=zs at*;generalize (endOf (σ.word (σ.place id)):Int)=ze at*;generalize (σ.word (σ.place id):Int)=hd at*;generalize ((σ.place id:Nat):Int)=ix at*;go_enter Tryz.func195,Tryz.ntmps195;go_wp2_with fail
 go_region_held3 (fun w'=>w'.cell? ⟨b0,0,none⟩=some (.pointer (some ⟨A.be,0,none⟩))∧w'.cell? ⟨b1,0,none⟩=some (zi (id:Int))∧w'.cell? ⟨b2,0,none⟩=some (zi (key:Int))∧w'.cell? ⟨b3,0,none⟩=some (zu (ahead:Int))∧w'.cell? ⟨b4,0,none⟩=some (zu (link:Int))∧w'.cell? ⟨A.be,2,none⟩=some (.pointer (some ⟨A.ba,0,none⟩)))
  (first|exact⟨c0,c1,c2,c3,c4,e2⟩|assumption|go_keep|exact HKK.out _ (by assumption) (by assumption))
  (first|(go_at_call 48;refine HPL.out.mono ?_;rintro e w9 ⟨rfl,rfl⟩)|(go_at_call 42;refine (HL.out _ HRd.out).mono ?_;rintro e w1 ⟨rfl,q1,q2⟩;have q4:=HG.out.trans q2)|(go_at_call 109;refine (HU.out _).mono ?_;rintro e w9 ⟨rfl,rfl⟩))
 obtain⟨d0,d1,d2,d3,d4,d9⟩:=HKK.out _ q1 q4;have HQ1:=zH q1.drew;have HG1:=zH (q4.trans (Grow.drew _ _));go_wp2_with fail
 go_region_held3 (fun w'=>w'.cell? ⟨b0,0,none⟩=some (.pointer (some ⟨A.be,0,none⟩))∧w'.cell? ⟨b1,0,none⟩=some (zi (id:Int))∧w'.cell? ⟨b2,0,none⟩=some (zi (key:Int))∧w'.cell? ⟨b3,0,none⟩=some (zu (ahead:Int))∧w'.cell? ⟨b4,0,none⟩=some (zu (link:Int))∧w'.cell? ⟨A.be,2,none⟩=some (.pointer (some ⟨A.ba,0,none⟩)))
  (first|exact⟨d0,d1,d2,d3,d4,d9⟩|assumption|go_keep|exact HKK.out _ (by assumption) (by assumption)|exact HKS.out _ _ (by assumption) (by assumption))
  (first|(go_at_call 197;refine (HM.out _ HQ1.out).mono ?_;rintro e w2 ⟨v,rfl,p1,p2,p3⟩;obtain⟨fv,fb,fc,e3⟩:=SRep.form p3;subst e3;obtain⟨vo,y25⟩:∃ vo,w2.cell? ⟨A.be,25,none⟩=some vo:=⟨_,p1.eng 25 (v:=A.sv σ.tick.sw) rfl⟩;have z25:=p1.engF 25;have q5:=HG1.out.trans p2;have HP:=zH p3;clear p2 p3))
 go_wp2_with fail;go_ret;obtain⟨A',a1,a2,a3,a4,a5⟩:=p1.sweepPut _ _ HP.out;exact⟨rfl,A',a1,a3,q5.trans a4,a5,fun hc=>hc.keep a2 rfl (q5.trans a4)⟩
theorem give_none (hR:Rep A σ w) (hC:CutOk A σ.cut) (hcut:σ.cut=[]):
 Calls Tryz.prog 73 #[.pointer (some ⟨A.be,0,none⟩)] w fun e w'=>e=.returned (.bool false)∧Below w.heap.size w w':=by
 have y:w.cell? ⟨A.be,27,none⟩=some A.vcut:=hR.eng 27 rfl;obtain⟨a,c,e⟩:∃ a c,A.vcut=.slice a 0 c:=by
  rcases hC with ⟨-,h,-⟩|⟨-,k,cap,h,-⟩
  · exact⟨_,_,h⟩
  · rw[hcut] at h;exact⟨_,_,h⟩
 rw[e] at y;clear hR hcut e hC;go_enter Tryz.func73,Tryz.ntmps73;go_wp2;go_ret;exact⟨rfl,Below.refl _ _⟩
theorem calls_index (v:Nat→Value) (k:Nat) (hk:k<8) (w:World):(Instr.index 106 (.agg #[v 0,v 1,v 2,v 3,v 4,v 5,v 6,v 7]) (zi (k:Int))).run Tryz.prog w=.ok (v k) w:=by
 have h:k=0∨k=1∨k=2∨k=3∨k=4∨k=5∨k=6∨k=7:=by omega
 rcases h with rfl|rfl|rfl|rfl|rfl|rfl|rfl|rfl<;>rfl
def behind (seq:Nat) (c:Option Cal):Bool:=match c with|some c=>decide (seq<c.seq)|none=>true
def GaveS (A:Book) (σ:St) (w:World) (link seq:Nat) (rest:List (Nat×Nat)):Ending→World→Prop:=fun e w'=>
 (∃ q,q<8∧behind seq (σ.calls.getD q none)=false∧e=.returned (.bool false)∧Below w.heap.size w w')∨
 ((∀ q,q<8→behind seq (σ.calls.getD q none)=true)∧e=.returned (.bool true)∧∃ A',SOnly A A'∧A'.vsweep=A.vsweep∧Rep A' {σ.give link with cut:=rest} w'∧Grow A.L w A'.L w'∧CutOk A' rest)
theorem give_some (hL:Live A σ w) (link seq:Nat) (rest:List (Nat×Nat)) (hv:VL σ link) (hp:PoolOk σ) (hcut:σ.cut=(link,seq)::rest) (hln:σ.cut.length<1000000):
 Calls Tryz.prog 73 #[.pointer (some ⟨A.be,0,none⟩)] w (GaveS A σ w link seq rest):=by
 have hR:=hL.rep;have hck:=hL.sx.cu;rw[hcut] at hck;obtain⟨kk,c,hh,hvc,hn1,hcm,hkl,hct,hc0,hc1⟩:=hck.tail;have he:memOf A σ .cut=.obj A.gcut A.cutCs 203:=by simp only[memOf,hh,cond_true]
 have ylk:w.cell? ⟨A.gcut,2*kk,none⟩=some (zu (link:Int)):=hR.mem.cell he (2*kk) hc0;have ysq:w.cell? ⟨A.gcut,2*kk+1,none⟩=some (zi (seq:Int)):=hR.mem.cell he (2*kk+1) hc1;obtain⟨nr,hnr⟩:∃ nr,nr=rest.length+1:=⟨_,rfl⟩
 rw[←hnr] at hvc hn1;have y27:w.cell? ⟨A.be,27,none⟩=some (.slice (some ⟨A.gcut,2*kk,none⟩) nr c):=(hR.eng 27 rfl).trans (congrArg some hvc);have y3:w.cell? ⟨A.be,3,none⟩=some (.pointer (some ⟨A.bp,0,none⟩)):=hR.eng 3 rfl;obtain⟨vc,hvcc⟩:∃ vc:Nat→Value,vc=A.vcall:=⟨_,rfl⟩
 have z0:w.cell? ⟨A.be,13,none⟩=some (vc 0):=(hR.eng 13 (v:=A.vcall 0) rfl).trans (by rw[hvcc]);have z1:w.cell? ⟨A.be,14,none⟩=some (vc 1):=(hR.eng 14 (v:=A.vcall 1) rfl).trans (by rw[hvcc]);have z2:w.cell? ⟨A.be,15,none⟩=some (vc 2):=(hR.eng 15 (v:=A.vcall 2) rfl).trans (by rw[hvcc]);have z3:w.cell? ⟨A.be,16,none⟩=some (vc 3):=(hR.eng 16 (v:=A.vcall 3) rfl).trans (by rw[hvcc]);have z4:w.cell? ⟨A.be,17,none⟩=some (vc 4):=(hR.eng 17 (v:=A.vcall 4) rfl).trans (by rw[hvcc]);have z5:w.cell? ⟨A.be,18,none⟩=some (vc 5):=(hR.eng 18 (v:=A.vcall 5) rfl).trans (by rw[hvcc]);have z6:w.cell? ⟨A.be,19,none⟩=some (vc 6):=(hR.eng 19 (v:=A.vcall 6) rfl).trans (by rw[hvcc]);have z7:w.cell? ⟨A.be,20,none⟩=some (vc 7):=(hR.eng 20 (v:=A.vcall 7) rfl).trans (by rw[hvcc]);have hnr1:((nr:Int)==0)=false:=by simp;omega
 have hnr2:((nr:Int)=0)=False:=by simp;omega
 have hnr3:(nr=0)=False:=by simp;omega
 have hnr4:((0:Int)<(nr:Int))=True:=by simp;omega
 have hnr5:(0<nr)=True:=by simp;omega
 have HNR:=zH (zA hnr hn1);have HX:=zH (zA hL (zA hv (zA hp (zA hvcc hct))));have HCL:Hid (∀ k,k<8→∀ w1,Below w.heap.size w w1→vc k=.pointer none∧behind seq (σ.calls.getD k none)=true∨∃ (b cq:Nat),vc k=.pointer (some ⟨b,0,none⟩)∧w1.cell? ⟨b,12,none⟩=some (zi (cq:Int))∧behind seq (σ.calls.getD k none)=decide (seq<cq)):=fun k hk w1 hb=>by
  rw[hvcc]
  cases hcc:σ.calls.getD k none with
  |none=>exact .inl ⟨hL.idle k hk hcc,rfl⟩
  |some cc=>
   refine .inr ⟨A.bc k,cc.seq,(hL.call k hk cc hcc).1,?_,rfl⟩;exact (hR.below hb).call hcc 12 rfl
 have HCE:Hid (∀ w1,Below w.heap.size w w1→w1.cell? ⟨A.be,3,none⟩=some (.pointer (some ⟨A.bp,0,none⟩))∧w1.cell? ⟨A.be,27,none⟩=some (.slice (some ⟨A.gcut,2*kk,none⟩) nr c)∧w1.cell? ⟨A.gcut,2*kk,none⟩=some (zu (link:Int))∧w1.cell? ⟨A.gcut,2*kk+1,none⟩=some (zi (seq:Int))):=fun w1 hb=>by
  have r:=hR.below hb;exact⟨r.eng 3 rfl,(r.eng 27 rfl).trans (congrArg some hvc),r.mem.cell he (2*kk) hc0,r.mem.cell he (2*kk+1) hc1⟩
 have HSV:Hid (∀ A' w2,FreeOnly A A'→Rep A' (σ.give link) w2→w2.cell? ⟨A.be,3,none⟩=some (.pointer (some ⟨A.bp,0,none⟩))∧w2.cell? ⟨A.be,27,none⟩=some (.slice (some ⟨A.gcut,2*kk,none⟩) nr c)∧w2.cell? ⟨A.gcut,2*kk,none⟩=some (zu (link:Int))∧w2.cell? ⟨A.gcut,2*kk+1,none⟩=some (zi (seq:Int))):=fun A' w2 hfo r=>by
  obtain⟨L,v,rfl⟩:=hfo;exact⟨r.eng 3 rfl,(r.eng 27 rfl).trans (congrArg some hvc),r.mem.cell (r:=.cut) (b:=A.gcut) (cs:=A.cutCs) (by simp only[memOf,hh,cond_true];rfl) (2*kk) hc0,r.mem.cell (r:=.cut) (b:=A.gcut) (cs:=A.cutCs) (by simp only[memOf,hh,cond_true];rfl) (2*kk+1) hc1⟩
 clear hR hv hp hL hck hct hc0 hc1 hh he hkl hcut hln hvc hvcc hnr hn1;go_enter Tryz.func73,Tryz.ntmps73;go_wp2_with fail
 go_loopw [19] (fun i wr=>∃ k:Nat,k≤8∧i=zi (k:Int)∧Below w.heap.size w wr∧∀ q,q<k→behind seq (σ.calls.getD q none)=true) (fun i _=>8 - (intOf i).toNat)
 case atStart=>exact⟨0,by omega,rfl,Below.refl _ _,fun q h=>absurd h (by omega)⟩
 case round=>
  obtain⟨k,hk,rfl,hb,hbe⟩:=hrel;have HB:=zH (zA hb hbe);clear hb hbe
  by_cases hlt:k<8
  · have k1:((k:Int)<8)=True:=by simp;omega
    have k2:decide ((k:Int)<8)=true:=by simp;omega
    have k3:IntKind.i64.wrap ((k:Int)+1)=(k:Int)+1:=by rw[IntKind.wrap_i64];omega
    have hix:=calls_index vc k hlt;obtain⟨x3,x27,xlk,xsq⟩:=HCE.out _ HB.out.1
    rcases HCL.out k hlt _ HB.out.1 with ⟨e1,e2⟩|⟨b,cq,e1,e2,e3⟩
    · rw[e1] at hix
      have HK:=zH (zA hlt e2);clear hlt hk e2;go_wp2_with (refine wpList_index rfl (.tmp 18) (.tmp 19) 106 rfl (hix _) ?_)
      go_quiet (fail)
      go_wp2_with fail;exact⟨⟨k+1,by have:=HK.out.1;omega,rfl,HB.out.1.trans ⟨rfl,rfl,rfl,Nat.le_refl _,fun _ _=>rfl⟩,fun q hq=>by by_cases h:q=k;rw[h];exact HK.out.2;exact HB.out.2 q (by omega)⟩,by have:=HK.out.1;simp[intOf];omega⟩
    · rw[e1] at hix
      have HK:=zH (zA hlt e3);clear hlt hk e3
      by_cases hq:seq<cq
      · have q1:((cq:Int)≤(seq:Int))=False:=by simp;omega
        have q2:decide ((cq:Int)≤(seq:Int))=false:=by simp;omega
        have q3:(cq≤seq)=False:=by simp;omega
        have q4:decide (cq≤seq)=false:=by simp;omega
        go_wp2_with (refine wpList_index rfl (.tmp 18) (.tmp 19) 106 rfl (hix _) ?_)
        go_quiet (fail)
        go_wp2_with fail;exact⟨⟨k+1,by have:=HK.out.1;omega,rfl,HB.out.1.trans ⟨rfl,rfl,rfl,Nat.le_refl _,fun _ _=>rfl⟩,fun q hqk=>by by_cases h:q=k;rw[h,HK.out.2];simpa using hq;exact HB.out.2 q (by omega)⟩,by have:=HK.out.1;simp[intOf];omega⟩
      · have q1:((cq:Int)≤(seq:Int))=True:=by simp;omega
        have q2:decide ((cq:Int)≤(seq:Int))=true:=by simp;omega
        have q3:(cq≤seq)=True:=by simp;omega
        have q4:decide (cq≤seq)=true:=by simp;omega
        go_wp2_with (refine wpList_index rfl (.tmp 18) (.tmp 19) 106 rfl (hix _) ?_)
        go_quiet (fail)
        go_wp2_with fail;go_ret;exact .inl ⟨k,HK.out.1,by rw[HK.out.2];simpa using hq,rfl,HB.out.1.trans ⟨rfl,rfl,rfl,Nat.le_refl _,fun _ _=>rfl⟩⟩
  · obtain rfl:k=8:=by omega
    have k1:(((8:Nat):Int)<8)=False:=by simp
    have k2:decide (((8:Nat):Int)<8)=false:=by simp
    obtain⟨x3,x27,xlk,xsq⟩:=HCE.out _ HB.out.1;have hRr:=HX.out.1.rep.below HB.out.1;have HGV:=zH (give_any hRr.drew link HX.out.2.1 HX.out.2.2.1);have HBD:=zH ((HB.out.1).drew);clear hRr hk;go_wp2_with fail
    go_region_held3 (fun w'=>w'.cell? ⟨A.be,3,none⟩=some (.pointer (some ⟨A.bp,0,none⟩))∧w'.cell? ⟨A.be,27,none⟩=some (.slice (some ⟨A.gcut,2*kk,none⟩) nr c)∧w'.cell? ⟨A.gcut,2*kk,none⟩=some (zu (link:Int))∧w'.cell? ⟨A.gcut,2*kk+1,none⟩=some (zi (seq:Int)))
     (first|exact⟨x3,x27,xlk,xsq⟩|assumption|go_keep|exact HSV.out _ _ (by assumption) (by assumption))
     (first|(go_at_call 100;refine HGV.out.mono ?_;rintro e w2 ⟨⟨zz,rfl⟩,A',p0,p1,p2⟩))
    obtain⟨_,y27',_⟩:=HSV.out _ _ p0 p1;have z27:=p1.engF 27;have b1:A'.be=A.be:=by obtain⟨L,v,rfl⟩:=p0;rfl
    have hvs:A'.vsweep=A.vsweep:=by obtain⟨L,v,rfl⟩:=p0;rfl
    have hso:SOnly A A':=by obtain⟨L,v,rfl⟩:=p0;exact⟨⟨_,_,_,_,_,_,_,_,rfl⟩,rfl⟩
    rw[b1] at z27;have hck:CutOk {A' with vcut:=.slice (if c=1 then some ⟨A.gcut,2*kk,none⟩ else some ⟨A.gcut,2*kk+2,none⟩) (nr - 1) (c - 1)} rest:=by
     rw[show nr - 1=rest.length by have:=HNR.out.1;omega];obtain⟨L,v,rfl⟩:=p0;exact HX.out.2.2.2.2
    have h1n:((1:Int)≤(nr:Int))=True:=by have:=HNR.out;simp;omega
    have h1n':(1≤nr)=True:=by have:=HNR.out;simp;omega
    have h1c:((1:Int)≤(c:Int))=True:=by have:=HNR.out;simp;omega
    have hc2:¬ ((c:Int)<1):=by have:=HNR.out;omega
    have HF:=zH (zA p1 (zA ((Grow.below (L:=A.L) HBD.out).trans p2) (zA b1 (zA hso (zA hvs hck)))));clear p0 p1 p2 b1 hso hvs hck;go_wp2_with fail
    all_goals
     go_ret;obtain⟨p1,p2,b1,hso,hvs,hck⟩:=HF.out;rw[←b1];refine .inr ⟨HB.out.2,rfl,_,?_,?_,(p1.cutSet _ rest (σ.give link).cuts).1,p2.trans (p1.cutSet _ rest (σ.give link).cuts).2,?_⟩;rotate_left;exact hvs;rotate_left;exact hso.trans ⟨⟨_,_,_,_,_,_,_,_,rfl⟩,rfl⟩
     by_cases hq:c=1
     · rw[if_pos hq] at hck
       have e0:c - 1=0:=by omega
       rw[e0] at hck
       first|exact hck|exact absurd hq (by assumption)
     · rw[if_neg hq] at hck
       first|exact hck|exact absurd (by assumption) hq
def okS (σ:St):S→Bool
 |.now=>decide (σ.word 0<18446744073709551616)
 |.live s=>decide (s<8)
 |.head key=>decide (key≤63)
 |.visit _ _ link=>vl σ link&&small σ (wslot link 0)
 |.maker _ _ _ id=>decide (id≤2000)&&small σ (σ.place id)
 |.garbage _ _ link _=>vl σ link&&small σ (wslot link 1)
 |.on key link=>decide (key≤63)&&vl σ link
 |.unlink _ _ link=>vl σ link
 |.cut key ahead link _=>decide (key≤63)&&((decide (ahead=0)||vl σ ahead)&&decide (σ.cut.length<1000000))
theorem SRep.enter {e:Nat} {L:Lab} {w:World} {v:Value}:∀ {k:S},SRep e L w v (some k)→∃ f b c,v=.func (.func f) b c∧∀ args w,(callFunc f args).run Tryz.prog w=.ok (.enter f args) w
 |.now,h=>⟨_,_,_,h,fun _ _=>by kernel_rfl⟩
 |.live _,h=>let ⟨_,_,e,_⟩:=h;⟨_,_,_,e,fun _ _=>by kernel_rfl⟩
 |.head _,h=>let ⟨_,_,e,_⟩:=h;⟨_,_,_,e,fun _ _=>by kernel_rfl⟩
 |.visit _ _ _,h=>let ⟨_,_,_,_,e,_⟩:=h;⟨_,_,_,e,fun _ _=>by kernel_rfl⟩
 |.maker _ _ _ _,h=>let ⟨_,_,_,_,_,e,_⟩:=h;⟨_,_,_,e,fun _ _=>by kernel_rfl⟩
 |.garbage _ _ _ _,h=>let ⟨_,_,_,_,_,e,_⟩:=h;⟨_,_,_,e,fun _ _=>by kernel_rfl⟩
 |.on _ _,h=>let ⟨_,_,_,e,_⟩:=h;⟨_,_,_,e,fun _ _=>by kernel_rfl⟩
 |.unlink _ _ _,h=>let ⟨_,_,_,_,e,_⟩:=h;⟨_,_,_,e,fun _ _=>by kernel_rfl⟩
 |.cut _ _ _ _,h=>let ⟨_,_,_,_,_,e,_⟩:=h;⟨_,_,_,e,fun _ _=>by kernel_rfl⟩
theorem sRuns (hR:Rep A σ w) (hck:CutOk A σ.cut) (hcnt:σ.count<3000000000000000000):∀ (k:S) (_:okS σ k=true) (f:FuncId) (b c:Array Value),SRep A.be A.L w (.func (.func f) b c) (some k)→Calls Tryz.prog f (b++c) w (SRan A σ w (σ.sweepRun k))
 |.now,h,f,b,c,hs=>by
  obtain⟨rfl,rfl,rfl⟩:=func_inj hs;exact sw_now hR (by omega) (of_decide_eq_true h)
 |.live s,h,f,b,c,hs=>by
  obtain⟨b0,b1,e,k0,k1⟩:=hs;obtain⟨rfl,rfl,rfl⟩:=func_inj e;exact k_live hR s (of_decide_eq_true h) (by omega) b0 b1 k0 k1
 |.head key,h,f,b,c,hs=>by
  obtain⟨b0,b1,e,k0,k1⟩:=hs;obtain⟨rfl,rfl,rfl⟩:=func_inj e;exact k_head hR key (of_decide_eq_true h) (by omega) b0 b1 k0 k1
 |.visit key ahead link,h,f,b,c,hs=>by
  obtain⟨b0,b1,b2,b3,e,k0,k1,k2,k3⟩:=hs;obtain⟨rfl,rfl,rfl⟩:=func_inj e;obtain⟨h1,h2⟩:=and_ok h
  by_cases hx:(rd (σ.word (wslot link 0))).1=2
  · exact k_svisit_y hR key ahead link (vl_iff h1) (small_iff h2) (by simp[hx]) (by omega) b0 b1 b2 b3 k0 k1 k2 k3
  · exact k_svisit_n hR key ahead link (vl_iff h1) (small_iff h2) (by simp[hx]) (by omega) b0 b1 b2 b3 k0 k1 k2 k3
 |.maker key ahead link id,h,f,b,c,hs=>by
  obtain⟨b0,b1,b2,b3,b4,e,k0,k1,k2,k3,k4⟩:=hs;obtain⟨rfl,rfl,rfl⟩:=func_inj e;obtain⟨h1,h2⟩:=and_ok h;have hid:=of_decide_eq_true h1
  by_cases hx:stateOf (σ.word (σ.place id))=4
  · exact k_smaker_y hR key ahead link id (by omega) (place_lt hR hid) (small_iff h2) (by simp[hx]) (by omega) b0 b1 b2 b3 b4 k0 k1 k2 k3 k4
  · exact k_smaker_n hR key ahead link id (by omega) (place_lt hR hid) (small_iff h2) (by simp[hx]) (by omega) b0 b1 b2 b3 b4 k0 k1 k2 k3 k4
 |.garbage key ahead link bb,h,f,b,c,hs=>by
  obtain⟨b0,b1,b2,b3,b4,e,k0,k1,k2,k3,k4⟩:=hs;obtain⟨rfl,rfl,rfl⟩:=func_inj e;obtain⟨h1,h2⟩:=and_ok h
  cases hx:garbage (σ.word (wslot link 1)) σ.low with
  |true=>exact k_garbage_y hR key ahead link bb (vl_iff h1) (small_iff h2) hx (by omega) b0 b1 b2 b3 b4 k0 k1 k2 k3 k4
  |false=>exact k_garbage_n hR key ahead link bb (vl_iff h1) (small_iff h2) hx (by omega) b0 b1 b2 b3 b4 k0 k1 k2 k3 k4
 |.on key link,h,f,b,c,hs=>by
  obtain⟨b0,b1,b2,e,k0,k1,k2⟩:=hs;obtain⟨rfl,rfl,rfl⟩:=func_inj e;obtain⟨h1,h2⟩:=and_ok h;exact k_on hR key link (of_decide_eq_true h1) (vl_iff h2) (by omega) b0 b1 b2 k0 k1 k2
 |.unlink key ahead link,h,f,b,c,hs=>by
  obtain⟨b0,b1,b2,b3,e,k0,k1,k2,k3⟩:=hs;obtain⟨rfl,rfl,rfl⟩:=func_inj e;exact k_unlink hR key ahead link (vl_iff h) (by omega) b0 b1 b2 b3 k0 k1 k2 k3
 |.cut key ahead link nx,h,f,b,c,hs=>by
  obtain⟨b0,b1,b2,b3,b4,e,k0,k1,k2,k3,k4⟩:=hs;obtain⟨rfl,rfl,rfl⟩:=func_inj e;obtain⟨h1,h⟩:=and_ok h;obtain⟨h2,h3⟩:=and_ok h;have hln:=of_decide_eq_true h3;rw[Bool.or_eq_true,decide_eq_true_eq] at h2
  by_cases ha:ahead=0
  · by_cases hw:σ.word (9+key)=link
    · exact k_cut_on hR key ahead link nx (of_decide_eq_true h1) (.inl ⟨ha,hw⟩) hck hln (by omega) b0 b1 b2 b3 b4 k0 k1 k2 k3 k4
    · exact k_cut_miss hR key ahead link nx (of_decide_eq_true h1) ha hw (by omega) b0 b1 b2 b3 b4 k0 k1 k2 k3 k4
  · exact k_cut_on hR key ahead link nx (of_decide_eq_true h1) (.inr (vl_iff (h2.resolve_left ha))) hck hln (by omega) b0 b1 b2 b3 b4 k0 k1 k2 k3 k4
theorem sweepRun_keeps (σ:St) (k:S):(σ.sweepRun k).1.calls=σ.calls∧(σ.sweepRun k).1.count=σ.count+1∧(σ.sweepRun k).1.looks=σ.looks:=by
 cases k<;>simp only[St.sweepRun]<;>(repeat' split)<;>exact⟨rfl,rfl,rfl⟩
theorem Live.sonly {A A':Book} {σ σ':St} {w w':World} (hL:Live A σ w) (r:Rep A' σ' w') (g:Grow A.L w A'.L w') (s:SOnly A A') (hc:σ'.calls=σ.calls) (sx:SwRep A' σ' w'):Live A' σ' w':=by
 obtain⟨⟨L,v,c,f,m,hc',gc,cs,rfl⟩,hm⟩:=s;have ek:∀ s,kp {A with L:=L,vsweep:=v,vcut:=c,vfree:=f,mp:=m,hcut:=hc',gcut:=gc,cutCs:=cs} σ' s=kp A σ s:=fun s=>by unfold kp St.c;rw[hc]
 refine⟨r,hm.trans hL.mp,hL.mt,fun s h c hcs=>?_,fun s h hcs=>hL.idle s h (by rw[←hc];exact hcs),sx⟩;obtain⟨e1,k,e2,e3⟩:=hL.call s h c (by rw[←hc];exact hcs);exact⟨e1,k,e2,by rw[ek];exact e3.grow g⟩
def Swept (A:Book) (w:World) (σ':St) (x:Bool):Ending→World→Prop:=fun e w'=>e=.returned (.bool x)∧∃ A',SOnly A A'∧Live A' σ' w'∧Grow A.L w A'.L w'
def GiveNo (σ:St):Prop:=∀ A w,Live A σ w→Calls Tryz.prog 73 #[.pointer (some ⟨A.be,0,none⟩)] w fun e w'=>e=.returned (.bool false)∧Below w.heap.size w w'
theorem fnNe (f:FuncId) (b c:Array Value) (w:World):(binOp .eql 54 (.func (.func f) b c) .nilFunc).run Tryz.prog w=.ok (.bool false) w:=by rfl
theorem fnEq (w:World):(binOp .eql 54 .nilFunc .nilFunc).run Tryz.prog w=.ok (.bool true) w:=by rfl
theorem sweep_some (hL:Live A σ w) (k:S) (hsw:σ.sw=some k) (hgn:GiveNo σ) (hcnt:σ.count<3000000000000000000) (hlk:σ.looks<1000000000000000000) (hok:okS σ k=true):
 Calls Tryz.prog 35 #[.pointer (some ⟨A.be,0,none⟩)] w (Swept A w ({(σ.sweepRun k).1 with looks:=σ.looks+1}) (σ.sweepRun k).2):=by
 obtain⟨r2,g2,f0,f1⟩:=allocs2 hL.rep #[.pointer (some ⟨A.be,0,none⟩)] 32 #[zi (σ.count:Int)] 3;have hcn:=zH ((count_any (hL.rep.alloc (.cells #[.pointer (some ⟨A.be,0,none⟩)] 32)) (by omega)).mono (fun e w9 h=>(⟨h.1,h.2.symm⟩:e=_∧w9=w.alloc (.cells #[.pointer (some ⟨A.be,0,none⟩)] 32))));have e2:(w.alloc (.cells #[.pointer (some ⟨A.be,0,none⟩)] 32)).cell? ⟨A.be,2,none⟩=some (.pointer (some ⟨A.ba,0,none⟩)):=(hL.rep.alloc _).eng 2 rfl;have y0:=f0.cell 0 (v:=.pointer (some ⟨A.be,0,none⟩)) rfl;have hS:=hL.sx.sw;have hC:CRow A σ w:=hL.sx.cu;have HG:=zH (hgn A _ (hL.world r2 g2));rw[hsw] at hS;obtain⟨fv,fb,fc,hv,he⟩:=hS.enter;obtain⟨hk1,hk2,hk3⟩:=sweepRun_keeps σ k
 have H3 : Hid (∀ w3, Below ((w.alloc (.cells #[.pointer (some ⟨A.be, 0, none⟩)] 32)).alloc (.cells #[zi (σ.count : Int)] 3)).heap.size ((w.alloc (.cells #[.pointer (some ⟨A.be, 0, none⟩)] 32)).alloc (.cells #[zi (σ.count : Int)] 3)) w3 →
     w3.cell? ⟨w.heap.size,0,none⟩=some (.pointer (some ⟨A.be,0,none⟩))∧w3.cell? ⟨A.be,25,none⟩=some (.func (.func fv) fb fc)∧Calls Tryz.prog fv (fb++fc) w3 (fun e w4=>e=.returned (.bool (σ.sweepRun k).2)∧∃ A',SOnly A A'∧Rep A' (σ.sweepRun k).1 w4∧Grow A.L w A'.L w4∧SRep A'.be A'.L w4 (A'.sv (σ.sweepRun k).1.sw) (σ.sweepRun k).1.sw∧CRow A' (σ.sweepRun k).1 w4∧Box A'.L w4 w.heap.size (.pointer (some ⟨A'.be,0,none⟩))∧Box A'.L w4 (w.heap.size+1) (zi (σ.count:Int)))):=by
  intro w3 hb;have gb:=Grow.below (L:=A.L) hb;have r3:=r2.below hb;have c25:=r3.eng 25 (v:=A.sv σ.sw) rfl;rw[hsw,hv] at c25;refine⟨(f0.grow gb).cell 0 rfl,c25,?_⟩;have hS3:=hS.grow (g2.trans gb);rw[hv] at hS3;refine (sRuns r3 hC hcnt k hok fv fb fc hS3).mono ?_;rintro e w4 ⟨rfl,A',s1,s2,s3,s4,s5⟩;have hbe:A'.be=A.be:=by obtain⟨⟨L,v,c,f,m,hc',gc,cs,rfl⟩,_⟩:=s1;rfl
  exact⟨rfl,A',s1,s2,(g2.trans gb).trans s3,s4,s5 (hC.keep rfl rfl (g2.trans gb)),by rw[hbe];exact ((f0.grow gb).grow s3).box,((f1.grow gb).grow s3).box⟩
 have HLH:=zH (zA hL (zA hcnt (zA hlk (zA hk1 (zA hk2 hk3)))));clear r2 g2 f0 f1 hL hS hC hgn hcnt hlk hok hv hsw hk1 hk2 hk3;generalize σ.sweepRun k=rr at*;have hne:=fnNe fv fb fc
 go_enter_defers Tryz.func35,Tryz.ntmps35
 go_wp2_with (first|(go_at_call 71;refine hcn.out.mono ?_;rintro e w1 ⟨rfl,rfl⟩)|(go_at_call 73;refine HG.out.mono ?_;rintro e w3 ⟨rfl,hb⟩;obtain⟨x0,x25,hc⟩:=H3.out w3 hb;have HC:=zH hc;clear hc hb));refine HC.out.mono ?_;rintro e w4 ⟨rfl,A',s1,s2,s3,s4,s5,B0,B1⟩;have HD:=zH (sweep_countD s2 σ.count 1 HLH.out.2.2.2.2.1 (by rw[HLH.out.2.2.2.2.1];have:=HLH.out.2.1;omega) (by rw[HLH.out.2.2.2.2.2];exact HLH.out.2.2.1) (by omega) _ _ B0 B1);have HS:=zH (zA s1 (zA s2 (zA s3 (zA s4 s5))));clear s1 s2 s3 s4 s5 B0 B1 HC;go_wp2;refine leaves_cons (f:=72) (args:=#[.pointer (some ⟨w.heap.size,0,none⟩),.pointer (some ⟨w.heap.size+1,0,none⟩)]) (by simp) (by simp[go_sem]) ?_;refine HD.out.mono ?_;rintro e u w5 ⟨rfl,rfl,r5,g5⟩;simp[Leaves,settle,results,Tryz.results35];obtain⟨s1,s2,s3,s4,s5⟩:=HS.out;obtain⟨hL,_,_,hk1,hk2,hk3⟩:=HLH.out;rw[hk3] at r5;exact⟨rfl,A',s1,hL.sonly r5 (s3.trans g5) s1 hk1 ⟨s4.grow g5,s5⟩,s3.trans g5⟩
theorem sweep_none (hL:Live A σ w) (hsw:σ.sw=none) (hgn:GiveNo σ) (hcnt:σ.count<3000000000000000000) (hlk:σ.looks<1000000000000000000) (hok:okS σ .now=true):
 Calls Tryz.prog 35 #[.pointer (some ⟨A.be,0,none⟩)] w (Swept A w ({(σ.sweepRun .now).1 with looks:=σ.looks+1}) (σ.sweepRun .now).2):=by
 obtain⟨r2,g2,f0,f1⟩:=allocs2 hL.rep #[.pointer (some ⟨A.be,0,none⟩)] 32 #[zi (σ.count:Int)] 3;have hcn:=zH ((count_any (hL.rep.alloc (.cells #[.pointer (some ⟨A.be,0,none⟩)] 32)) (by omega)).mono (fun e w9 h=>(⟨h.1,h.2.symm⟩:e=_∧w9=w.alloc (.cells #[.pointer (some ⟨A.be,0,none⟩)] 32))));have e2:(w.alloc (.cells #[.pointer (some ⟨A.be,0,none⟩)] 32)).cell? ⟨A.be,2,none⟩=some (.pointer (some ⟨A.ba,0,none⟩)):=(hL.rep.alloc _).eng 2 rfl;have y0:=f0.cell 0 (v:=.pointer (some ⟨A.be,0,none⟩)) rfl;have hC:CRow A σ w:=hL.sx.cu;have HG:=zH (hgn A _ (hL.world r2 g2));have he:∀ args w,(callFunc 74 args).run Tryz.prog w=.ok (.enter 74 args) w:=fun _ _=>by kernel_rfl
 obtain⟨hk1,hk2,hk3⟩:=sweepRun_keeps σ .now
 have H3 : Hid (∀ w3, Below ((w.alloc (.cells #[.pointer (some ⟨A.be, 0, none⟩)] 32)).alloc (.cells #[zi (σ.count : Int)] 3)).heap.size ((w.alloc (.cells #[.pointer (some ⟨A.be, 0, none⟩)] 32)).alloc (.cells #[zi (σ.count : Int)] 3)) w3 →
     w3.cell? ⟨w.heap.size,0,none⟩=some (.pointer (some ⟨A.be,0,none⟩))∧w3.cell? ⟨A.be,25,none⟩=some .nilFunc∧w3.frozen? ⟨A.be,25,none⟩=false∧(w3.setCell ⟨A.be,25,none⟩ (.func (.func 74) #[.pointer (some ⟨A.be,0,none⟩)] #[])).cell? ⟨w.heap.size,0,none⟩=some (.pointer (some ⟨A.be,0,none⟩))∧(w3.setCell ⟨A.be,25,none⟩ (.func (.func 74) #[.pointer (some ⟨A.be,0,none⟩)] #[])).cell? ⟨A.be,25,none⟩=some (.func (.func 74) #[.pointer (some ⟨A.be,0,none⟩)] #[])∧Calls Tryz.prog 74 #[.pointer (some ⟨A.be,0,none⟩)] (w3.setCell ⟨A.be,25,none⟩ (.func (.func 74) #[.pointer (some ⟨A.be,0,none⟩)] #[])) (fun e w4=>e=.returned (.bool (σ.sweepRun .now).2)∧∃ A',SOnly A A'∧Rep A' (σ.sweepRun .now).1 w4∧Grow A.L w A'.L w4∧SRep A'.be A'.L w4 (A'.sv (σ.sweepRun .now).1.sw) (σ.sweepRun .now).1.sw∧CRow A' (σ.sweepRun .now).1 w4∧Box A'.L w4 w.heap.size (.pointer (some ⟨A'.be,0,none⟩))∧Box A'.L w4 (w.heap.size+1) (zi (σ.count:Int)))):=by
  intro w3 hb;have gb:=Grow.below (L:=A.L) hb;have r3:=r2.below hb;have c25:=r3.eng 25 (v:=A.sv σ.sw) rfl;rw[hsw] at c25;have hv:A.sv (none:Option S)=.nilFunc:=rfl;rw[hv] at c25;have z25:=r3.engF 25;obtain⟨r4,g4⟩:=r3.sweepSet (.func (.func 74) #[.pointer (some ⟨A.be,0,none⟩)] #[]) .now;refine⟨(f0.grow gb).cell 0 rfl,c25,z25,((f0.grow gb).grow g4).cell 0 rfl,World.cell?_setCell_same _ _ _ c25,?_⟩;refine (sw_now r4 (by show σ.count<_;omega) (of_decide_eq_true hok)).mono ?_;rintro e w4 ⟨rfl,A',s1,s2,s3,s4,s5⟩;have hs0:SOnly A {A with vsweep:=.func (.func 74) #[.pointer (some ⟨A.be,0,none⟩)] #[]}:=⟨⟨_,_,_,_,_,_,_,_,rfl⟩,rfl⟩
  have hbe:A'.be=A.be:=by obtain⟨⟨L,v,c,f,m,hc',gc,cs,rfl⟩,_⟩:=s1;rfl
  have hC3:CRow {A with vsweep:=.func (.func 74) #[.pointer (some ⟨A.be,0,none⟩)] #[]} ({σ with sw:=some .now}:St) (w3.setCell ⟨A.be,25,none⟩ (.func (.func 74) #[.pointer (some ⟨A.be,0,none⟩)] #[])):=hC.keep rfl rfl ((g2.trans gb).trans g4);exact⟨rfl,A',hs0.trans s1,s2,((g2.trans gb).trans g4).trans s3,s4,s5 hC3,by rw[hbe];exact (((f0.grow gb).grow g4).grow s3).box,(((f1.grow gb).grow g4).grow s3).box⟩
 have HLH:=zH (zA hL (zA hcnt (zA hlk (zA hk1 (zA hk2 hk3)))));clear r2 g2 f0 f1 hL hC hgn hcnt hlk hok hsw hk1 hk2 hk3;generalize σ.sweepRun .now=rr at*;have heq:=fnEq
 go_enter_defers Tryz.func35,Tryz.ntmps35
 go_wp2_with (first|(go_at_call 71;refine hcn.out.mono ?_;rintro e w1 ⟨rfl,rfl⟩)|(go_at_call 73;refine HG.out.mono ?_;rintro e w3 ⟨rfl,hb⟩;obtain⟨x0,x25,z25,q0,q25,hc⟩:=H3.out w3 hb;have HC:=zH hc;clear hc hb));refine HC.out.mono ?_;rintro e w4 ⟨rfl,A',s1,s2,s3,s4,s5,B0,B1⟩;have HD:=zH (sweep_countD s2 σ.count 1 HLH.out.2.2.2.2.1 (by rw[HLH.out.2.2.2.2.1];have:=HLH.out.2.1;omega) (by rw[HLH.out.2.2.2.2.2];exact HLH.out.2.2.1) (by omega) _ _ B0 B1);have HS:=zH (zA s1 (zA s2 (zA s3 (zA s4 s5))));clear s1 s2 s3 s4 s5 B0 B1 HC;go_wp2;refine leaves_cons (f:=72) (args:=#[.pointer (some ⟨w.heap.size,0,none⟩),.pointer (some ⟨w.heap.size+1,0,none⟩)]) (by simp) (by simp[go_sem]) ?_;refine HD.out.mono ?_;rintro e u w5 ⟨rfl,rfl,r5,g5⟩;simp[Leaves,settle,results,Tryz.results35];obtain⟨s1,s2,s3,s4,s5⟩:=HS.out;obtain⟨hL,_,_,hk1,hk2,hk3⟩:=HLH.out;rw[hk3] at r5;exact⟨rfl,A',s1,hL.sonly r5 (s3.trans g5) s1 hk1 ⟨s4.grow g5,s5⟩,s3.trans g5⟩
theorem give_tags (σ:St) (link:Nat):(σ.give link).calls=σ.calls∧(σ.give link).count=σ.count∧(σ.give link).looks=σ.looks∧(σ.give link).sw=σ.sw:=by
 unfold St.give;dsimp only
 split
 · split<;>exact⟨rfl,rfl,rfl,rfl⟩
 · exact⟨rfl,rfl,rfl,rfl⟩
theorem sweep_give (hL:Live A σ w) (link seq:Nat) (rest:List (Nat×Nat)) (hv:VL σ link) (hp:PoolOk σ) (hcut:σ.cut=(link,seq)::rest) (hln:σ.cut.length<1000000) (hall:∀ q,q<8→behind seq (σ.calls.getD q none)=true) (hcnt:σ.count<3000000000000000000) (hlk:σ.looks<1000000000000000000):
 Calls Tryz.prog 35 #[.pointer (some ⟨A.be,0,none⟩)] w (Swept A w ({σ.give link with cut:=rest}) true):=by
 obtain⟨r2,g2,f0,f1⟩:=allocs2 hL.rep #[.pointer (some ⟨A.be,0,none⟩)] 32 #[zi (σ.count:Int)] 3;have hcn:=zH ((count_any (hL.rep.alloc (.cells #[.pointer (some ⟨A.be,0,none⟩)] 32)) (by omega)).mono (fun e w9 h=>(⟨h.1,h.2.symm⟩:e=_∧w9=w.alloc (.cells #[.pointer (some ⟨A.be,0,none⟩)] 32))));have e2:(w.alloc (.cells #[.pointer (some ⟨A.be,0,none⟩)] 32)).cell? ⟨A.be,2,none⟩=some (.pointer (some ⟨A.ba,0,none⟩)):=(hL.rep.alloc _).eng 2 rfl;have y0:=f0.cell 0 (v:=.pointer (some ⟨A.be,0,none⟩)) rfl;obtain⟨k1,k2,k3,k4⟩:=give_tags σ link;have hS:=hL.sx.sw
 have HG := zH ((give_some (hL.world r2 g2) link seq rest hv hp hcut hln).mono (fun e w3 h => (by
   rcases h with ⟨q,hq,hqf,_⟩|⟨_,h1,A',s1,s0,s2,s3,s5⟩
   · rw[hall q hq] at hqf;cases hqf
   have hbe:A'.be=A.be:=by obtain⟨⟨L,v,c,f,m,hc',gc,cs,rfl⟩,_⟩:=s1;rfl
   refine⟨h1,A',s1,s2,g2.trans s3,?_,s5,by rw[hbe];exact (f0.grow s3).box,(f1.grow s3).box⟩
   have h9:=hS.grow (g2.trans s3)
   have e9:A'.sv σ.sw=A.sv σ.sw:=by unfold Book.sv;rw[s0]
   rw[hbe,e9]
   exact h9:e=.returned (.bool true)∧∃ A',SOnly A A'∧Rep A' {σ.give link with cut:=rest} w3∧Grow A.L w A'.L w3∧SRep A'.be A'.L w3 (A'.sv σ.sw) σ.sw∧CutOk A' rest∧Box A'.L w3 w.heap.size (.pointer (some ⟨A'.be,0,none⟩))∧Box A'.L w3 (w.heap.size+1) (zi (σ.count:Int)))))
 have HLH:=zH (zA hL (zA hcnt (zA hlk (zA k1 (zA k2 (zA k3 k4))))));clear r2 g2 f0 f1 hL hS hcut hln hall hcnt hlk hv hp k1 k2 k3 k4
 go_enter_defers Tryz.func35,Tryz.ntmps35
 go_wp2_with (first|(go_at_call 71;refine hcn.out.mono ?_;rintro e w1 ⟨rfl,rfl⟩)|(go_at_call 73;refine HG.out.mono ?_;rintro e w4 ⟨rfl,A',s1,s2,s3,s4,s5,B0,B1⟩;have HS:=zH (zA s1 (zA s2 (zA s3 (zA s4 s5))));have HD:=zH (sweep_countD s2 σ.count 0 HLH.out.2.2.2.2.1 (by show (σ.give link).count<_;rw[HLH.out.2.2.2.2.1];have:=HLH.out.2.1;omega) (by show (σ.give link).looks<_;rw[HLH.out.2.2.2.2.2.1];exact HLH.out.2.2.1) (by omega) _ _ B0 B1);clear s1 s2 s3 s4 s5 B0 B1));refine leaves_cons (f:=72) (args:=#[.pointer (some ⟨w.heap.size,0,none⟩),.pointer (some ⟨w.heap.size+1,0,none⟩)]) (by simp) (by simp[go_sem]) ?_;refine HD.out.mono ?_;rintro e u w5 ⟨rfl,rfl,r5,g5⟩;simp[Leaves,settle,results,Tryz.results35];obtain⟨s1,s2,s3,s4,s5⟩:=HS.out;obtain⟨hL,_,_,k1,k2,k3,k4⟩:=HLH.out;refine⟨rfl,A',s1,hL.sonly r5 (s3.trans g5) s1 k1 ⟨?_,s5⟩,s3.trans g5⟩;show SRep A'.be A'.L w5 (A'.sv (σ.give link).sw) (σ.give link).sw;rw[k4];exact s4.grow g5
def okSweep (σ:St):Bool:=okS σ (σ.sw.getD .now)&&(okPool σ&&(σ.cut.all (fun p=>vl σ p.1)&&(decide (σ.cut.length<1000000)&&(decide (σ.count<3000000000000000000)&&(decide (σ.looks<1000000000000000000)&&decide (σ.calls.length=8))))))
theorem behind_all {σ:St} {seq:Nat} (h8:σ.calls.length=8):(σ.calls.all (fun c=>match c with|some c=>seq<c.seq|none=>true))=true↔∀ q,q<8→behind seq (σ.calls.getD q none)=true:=by
 rw[List.all_eq_true];refine⟨fun h q hq=>?_,fun h c hc=>?_⟩
 · have hl:q<σ.calls.length:=by omega
   have:=h _ (List.getElem_mem hl);rw[List.getD_eq_getElem?_getD,List.getElem?_eq_getElem hl];show behind seq σ.calls[q]=true;unfold behind
   cases e:σ.calls[q] with
   |none=>rfl
   |some c=>rw[e] at this;simpa using this
 · obtain⟨q,hq,rfl⟩:=List.mem_iff_getElem.1 hc
   have:=h q (by omega);rw[List.getD_eq_getElem?_getD,List.getElem?_eq_getElem hq] at this;change behind seq σ.calls[q]=true at this;unfold behind at this
   cases e:σ.calls[q] with
   |none=>rfl
   |some c=>rw[e] at this;simpa using this
theorem giveNo_nil {σ:St} (h:σ.cut=[]):GiveNo σ:=fun A w hL=>give_none hL.rep hL.sx.cu h
theorem giveNo_call {σ:St} {link seq:Nat} {rest:List (Nat×Nat)} (hv:VL σ link) (hp:okPool σ=true) (hcut:σ.cut=(link,seq)::rest) (hln:σ.cut.length<1000000) (h8:σ.calls.length=8) (h:(σ.calls.all (fun c=>match c with|some c=>seq<c.seq|none=>true))=false):GiveNo σ:=fun A w hL=>by
 refine (give_some hL link seq rest hv (okPool_iff hL.rep.nt hp) hcut hln).mono (fun e w3 hh=>?_)
 rcases hh with ⟨q,_,_,h1,h2⟩|⟨h1,_⟩
 · exact⟨h1,h2⟩
 · rw[(behind_all h8).2 h1] at h;cases h
theorem sweep_any (hL:Live A σ w) (hok:okSweep σ=true):
 Calls Tryz.prog 35 #[.pointer (some ⟨A.be,0,none⟩)] w (Swept A w σ.sweep.1 σ.sweep.2):=by
 unfold okSweep at hok;simp only[Bool.and_eq_true,decide_eq_true_eq,List.all_eq_true] at hok;obtain⟨h1,h2,h3,h4,h5,h6,h8⟩:=hok;have hgo:GiveNo σ→Calls Tryz.prog 35 #[.pointer (some ⟨A.be,0,none⟩)] w (Swept A w (St.sweep.go σ).1 (St.sweep.go σ).2):=fun hg=>by
  have e:∀ k:S,(σ.sweepRun k).1.looks+((σ.sweepRun k).1.count - σ.count)=σ.looks+1:=fun k=>by
   obtain⟨-,e2,e3⟩:=sweepRun_keeps σ k;rw[e2,e3];omega
  cases hsw:σ.sw with
  |none=>
   rw[hsw] at h1;have:=sweep_none hL hsw hg h5 h6 h1;unfold St.sweep.go;rw[hsw];show Calls _ _ _ w (Swept A w {(σ.sweepRun .now).1 with looks:=(σ.sweepRun .now).1.looks+((σ.sweepRun .now).1.count - σ.count)} _);rw[e];exact this
  |some k=>
   rw[hsw] at h1;have:=sweep_some hL k hsw hg h5 h6 h1;unfold St.sweep.go;rw[hsw];show Calls _ _ _ w (Swept A w {(σ.sweepRun k).1 with looks:=(σ.sweepRun k).1.looks+((σ.sweepRun k).1.count - σ.count)} _);rw[e];exact this
 unfold St.sweep
 split
 · rename_i link seq rest hcut
   have hv:=vl_iff (h3 (link,seq) (by rw[hcut];exact List.mem_cons_self))
   split
   · rename_i hall
     exact sweep_give hL link seq rest hv (okPool_iff hL.rep.nt h2) hcut h4 ((behind_all h8).1 hall) h5 h6
   · rename_i hall
     exact hgo (giveNo_call hv h2 hcut h4 h8 (Bool.eq_false_iff.2 hall))
 · rename_i hcut
   exact hgo (giveNo_nil hcut)
end Go.Proofs.YthicolbbmjfkfaaGreat.Em
