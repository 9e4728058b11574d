import Derived.Test.YthicolbbmjfkfaaGreatQp5
namespace Go.Proofs.YthicolbbmjfkfaaGreat.Em
open Go.ChangeShapes Go.WideShapes Go.ChangeAt Go.RowKit En
set_option linter.unusedVariables false
set_option linter.unusedSimpArgs false
set_option maxRecDepth 100000
set_option maxHeartbeats 1600000
variable {A:Book} {σ:St} {w:World}
def STells (A:Book) (σ:St) (w:World) (k:Option S):Ending→World→Prop:=fun e w'=>∃ v,e=.returned v∧Rep A σ w'∧Grow A.L w A.L w'∧SRep A.be A.L w' v k
theorem smaker_any (hR:Rep A σ w) (key:Nat) (ahead:Nat) (link:Nat) (id:Nat):
 Calls Tryz.prog 180 #[.pointer (some ⟨A.be,0,none⟩),zi (key:Int),zu (ahead:Int),zu (link:Int),zi (id:Int)] w (STells A σ w (some (.maker key ahead link id))):=by
 have F:=zH (allocs5 hR #[.pointer (some ⟨A.be,0,none⟩)] 32 #[zi (key:Int)] 3 #[zu (ahead:Int)] 25 #[zu (link:Int)] 25 #[zi (id:Int)] 3);clear hR;go_enter Tryz.func180,Tryz.ntmps180;go_wp2;go_ret;obtain⟨r1,r2,f0,f1,f2,f3,f4⟩:=F.out;exact⟨_,rfl,r1,r2,_,_,_,_,_,rfl,f0.box,f4.box,f1.box,f2.box,f3.box⟩
theorem sgarbage_any (hR:Rep A σ w) (key:Nat) (ahead:Nat) (link:Nat) (b:Nat):
 Calls Tryz.prog 181 #[.pointer (some ⟨A.be,0,none⟩),zi (key:Int),zu (ahead:Int),zu (link:Int),zu (b:Int)] w (STells A σ w (some (.garbage key ahead link b))):=by
 have F:=zH (allocs5 hR #[.pointer (some ⟨A.be,0,none⟩)] 32 #[zi (key:Int)] 3 #[zu (ahead:Int)] 25 #[zu (link:Int)] 25 #[zu (b:Int)] 25);clear hR;go_enter Tryz.func181,Tryz.ntmps181;go_wp2;go_ret;obtain⟨r1,r2,f0,f1,f2,f3,f4⟩:=F.out;exact⟨_,rfl,r1,r2,_,_,_,_,_,rfl,f4.box,f0.box,f3.box,f1.box,f2.box⟩
theorem son_any (hR:Rep A σ w) (key:Nat) (link:Nat):
 Calls Tryz.prog 197 #[.pointer (some ⟨A.be,0,none⟩),zi (key:Int),zu (link:Int)] w (STells A σ w (some (.on key link))):=by
 have F:=zH (allocs3 hR #[.pointer (some ⟨A.be,0,none⟩)] 32 #[zi (key:Int)] 3 #[zu (link:Int)] 25);clear hR;go_enter Tryz.func197,Tryz.ntmps197;go_wp2;go_ret;obtain⟨r1,r2,f0,f1,f2⟩:=F.out;exact⟨_,rfl,r1,r2,_,_,_,rfl,f0.box,f1.box,f2.box⟩
theorem sunlink_any (hR:Rep A σ w) (key:Nat) (ahead:Nat) (link:Nat):
 Calls Tryz.prog 196 #[.pointer (some ⟨A.be,0,none⟩),zi (key:Int),zu (ahead:Int),zu (link:Int)] w (STells A σ w (some (.unlink key ahead link))):=by
 have F:=zH (allocs4 hR #[.pointer (some ⟨A.be,0,none⟩)] 32 #[zi (key:Int)] 3 #[zu (ahead:Int)] 25 #[zu (link:Int)] 25);clear hR;go_enter Tryz.func196,Tryz.ntmps196;go_wp2;go_ret;obtain⟨r1,r2,f0,f1,f2,f3⟩:=F.out;exact⟨_,rfl,r1,r2,_,_,_,_,rfl,f0.box,f3.box,f1.box,f2.box⟩
theorem scut_any (hR:Rep A σ w) (key:Nat) (ahead:Nat) (link:Nat) (nx:Nat):
 Calls Tryz.prog 208 #[.pointer (some ⟨A.be,0,none⟩),zi (key:Int),zu (ahead:Int),zu (link:Int),zu (nx:Int)] w (STells A σ w (some (.cut key ahead link nx))):=by
 have F:=zH (allocs5 hR #[.pointer (some ⟨A.be,0,none⟩)] 32 #[zi (key:Int)] 3 #[zu (ahead:Int)] 25 #[zu (link:Int)] 25 #[zu (nx:Int)] 25);clear hR;go_enter Tryz.func208,Tryz.ntmps208;go_wp2;go_ret;obtain⟨r1,r2,f0,f1,f2,f3,f4⟩:=F.out;exact⟨_,rfl,r1,r2,_,_,_,_,_,rfl,f2.box,f0.box,f4.box,f1.box,f3.box⟩
theorem shead_any (hR:Rep A σ w) (key:Nat) (hk:key≤64):
 Calls Tryz.prog 135 #[.pointer (some ⟨A.be,0,none⟩),zi (key:Int)] w (STells A σ w (headS key)):=by
 have F:=zH (allocs2 hR #[.pointer (some ⟨A.be,0,none⟩)] 32 #[zi (key:Int)] 3);clear hR;unfold headS
 by_cases h63:63<key
 · have h1:((63:Int)<(key:Int))=True:=by simp;omega
   have h2:decide ((63:Int)<(key:Int))=true:=by simp;omega
   rw[if_pos h63];go_enter Tryz.func135,Tryz.ntmps135;go_wp2;go_ret;obtain⟨r1,r2,f0,f1⟩:=F.out;exact⟨_,rfl,r1,r2,rfl⟩
 · have h1:((63:Int)<(key:Int))=False:=by simp;omega
   have h2:decide ((63:Int)<(key:Int))=false:=by simp;omega
   rw[if_neg h63];go_enter Tryz.func135,Tryz.ntmps135;go_wp2;go_ret;obtain⟨r1,r2,f0,f1⟩:=F.out;exact⟨_,rfl,r1,r2,_,_,rfl,f0.box,f1.box⟩
theorem slive_any (hR:Rep A σ w) (s:Nat) (hs:s≤8):
 Calls Tryz.prog 101 #[.pointer (some ⟨A.be,0,none⟩),zi (s:Int)] w (STells A σ w (liveS s)):=by
 have F:=zH (allocs2 hR #[.pointer (some ⟨A.be,0,none⟩)] 32 #[zi (s:Int)] 3);have HH:=zH (shead_any (F.out.1) 0 (by decide));clear hR;unfold liveS
 by_cases h8:s=8
 · have h1:((s:Int)=8)=True:=by simp;omega
   have h2:((s:Int)==8)=true:=by simp;omega
   rw[if_pos h8];clear h8;go_enter Tryz.func101,Tryz.ntmps101;go_wp2_with (go_at_call 135;refine HH.out.mono ?_;rintro e w9 ⟨v,rfl,q1,q2,q3⟩;have HQ:=zH (zA q1 (zA q2 q3));clear q1 q2 q3);go_ret;exact⟨_,rfl,HQ.out.1,F.out.2.1.trans HQ.out.2.1,HQ.out.2.2⟩
 · have h1:((s:Int)=8)=False:=by simp;omega
   have h2:((s:Int)==8)=false:=by simp;omega
   rw[if_neg h8];clear h8;go_enter Tryz.func101,Tryz.ntmps101;go_wp2;go_ret;obtain⟨r1,r2,f0,f1⟩:=F.out;exact⟨_,rfl,r1,r2,_,_,rfl,f0.box,f1.box⟩
theorem svisit_any (hR:Rep A σ w) (key ahead link:Nat) (hk:key≤63):
 Calls Tryz.prog 160 #[.pointer (some ⟨A.be,0,none⟩),zi (key:Int),zu (ahead:Int),zu (link:Int)] w (STells A σ w (visitS key ahead link)):=by
 have F:=zH (allocs4 hR #[.pointer (some ⟨A.be,0,none⟩)] 32 #[zi (key:Int)] 3 #[zu (ahead:Int)] 25 #[zu (link:Int)] 25);have HH:=zH (shead_any (F.out.1) (key+1) (by omega));have n1:IntKind.i64.wrap ((key:Int)+1)=((key+1:Nat):Int):=by rw[IntKind.wrap_i64];omega
 clear hR;unfold visitS
 by_cases h8:link=0
 · have h1:((link:Int)=0)=True:=by simp;omega
   have h2:((link:Int)==0)=true:=by simp;omega
   rw[if_pos h8];clear h8;generalize ((key+1:Nat):Int)=k1 at*;go_enter Tryz.func160,Tryz.ntmps160;go_wp2_with (go_at_call 135;refine HH.out.mono ?_;rintro e w9 ⟨v,rfl,q1,q2,q3⟩;have HQ:=zH (zA q1 (zA q2 q3));clear q1 q2 q3);go_ret;exact⟨_,rfl,HQ.out.1,F.out.2.1.trans HQ.out.2.1,HQ.out.2.2⟩
 · have h1:((link:Int)=0)=False:=by simp;omega
   have h2:((link:Int)==0)=false:=by simp;omega
   rw[if_neg h8];clear h8;go_enter Tryz.func160,Tryz.ntmps160;go_wp2;go_ret;obtain⟨r1,r2,f0,f1,f2,f3⟩:=F.out;exact⟨_,rfl,r1,r2,_,_,_,_,rfl,f0.box,f3.box,f1.box,f2.box⟩
structure SOnly (A A':Book):Prop where
 ex:∃ L v c f m hc g cs,A'={A with L:=L,vsweep:=v,vcut:=c,vfree:=f,mp:=m,hcut:=hc,gcut:=g,cutCs:=cs}
 mp:A'.mp=A.mp
theorem SOnly.refl (A:Book):SOnly A A:=⟨⟨_,_,_,_,_,_,_,_,rfl⟩,rfl⟩
theorem SOnly.trans {A B C:Book} (h:SOnly A B) (k:SOnly B C):SOnly A C:=by
 obtain⟨⟨L,v,c,f,m,hc,gc,cs,rfl⟩,h2⟩:=h;obtain⟨⟨L',v',c',f',m',hc',gc',cs',rfl⟩,k2⟩:=k;exact⟨⟨_,_,_,_,_,_,_,_,rfl⟩,k2.trans h2⟩
def CRow (A:Book) (σ:St) (w:World):Prop:=CutOk A σ.cut
def SRan (A:Book) (σ:St) (w:World) (r:St×Bool):Ending→World→Prop:=fun e w'=>e=.returned (.bool r.2)∧∃ A',SOnly A A'∧Rep A' r.1 w'∧Grow A.L w A'.L w'∧SRep A'.be A'.L w' (A'.sv r.1.sw) r.1.sw∧(CRow A σ w→CRow A' r.1 w')
theorem Rep.sweepPut (h:Rep A σ w) (v:Value) (x:Option S) (hs:SRep A.be A.L w v x):
 ∃ A',SOnly A A'∧A'.ctf=A.ctf∧Rep A' {σ with sw:=x} (w.setCell ⟨A.be,25,none⟩ v)∧Grow A.L w A'.L (w.setCell ⟨A.be,25,none⟩ v)∧SRep A'.be A'.L (w.setCell ⟨A.be,25,none⟩ v) (A'.sv x) x:=by
 cases x with
 |none=>
  have e:v=.nilFunc:=hs;subst e;obtain⟨r,g⟩:=h.sweepNil;exact⟨A,SOnly.refl A,rfl,r,g,rfl⟩
 |some k=>
  obtain⟨r,g⟩:=h.sweepSet v k;exact⟨{A with vsweep:=v},⟨⟨_,_,_,_,_,_,_,_,rfl⟩,rfl⟩,rfl,r,g,hs.grow g⟩
theorem CRow.keep {A A':Book} {σ σ':St} {w w':World} (h:CRow A σ w) (e:A'.ctf=A.ctf) (ec:σ'.cut=σ.cut) (g:Grow A.L w A'.L w'):CRow A' σ' w':=by
 have c1:A'.vcut=A.vcut:=congrArg (·.1) e;have c2:A'.hcut=A.hcut:=congrArg (·.2.1) e;have c3:A'.gcut=A.gcut:=congrArg (·.2.2.1) e;have c4:A'.cutCs=A.cutCs:=congrArg (·.2.2.2) e;unfold CRow CutOk at*;rw[ec,c1,c2,c3,c4];exact h
theorem SRep.form {e:Nat} {L:Lab} {w:World} {v:Value}:∀ {k:S},SRep e L w v (some k)→∃ fv fb fc,v=.func (.func fv) fb fc
 |.now,h=>⟨_,_,_,h⟩
 |.live _,h=>let ⟨_,_,e,_⟩:=h;⟨_,_,_,e⟩
 |.head _,h=>let ⟨_,_,e,_⟩:=h;⟨_,_,_,e⟩
 |.visit _ _ _,h=>let ⟨_,_,_,_,e,_⟩:=h;⟨_,_,_,e⟩
 |.maker _ _ _ _,h=>let ⟨_,_,_,_,_,e,_⟩:=h;⟨_,_,_,e⟩
 |.garbage _ _ _ _,h=>let ⟨_,_,_,_,_,e,_⟩:=h;⟨_,_,_,e⟩
 |.on _ _,h=>let ⟨_,_,_,e,_⟩:=h;⟨_,_,_,e⟩
 |.unlink _ _ _,h=>let ⟨_,_,_,_,e,_⟩:=h;⟨_,_,_,e⟩
 |.cut _ _ _ _,h=>let ⟨_,_,_,_,_,e,_⟩:=h;⟨_,_,_,e⟩
theorem k_head (hR:Rep A σ w) (key:Nat) (hk:key≤63) (hcnt:σ.count<4000000000000000000) (b0:Nat) (b1:Nat) (B0:Box A.L w b0 (.pointer (some ⟨A.be,0,none⟩))) (B1:Box A.L w b1 (zi (key:Int))):
 Calls Tryz.prog 159 #[.pointer (some ⟨b0,0,none⟩),.pointer (some ⟨b1,0,none⟩)] w (SRan A σ w (σ.sweepRun (.head key))):=by
 have c0:=B0.cell;have c1:=B1.cell;have e2:=hR.z2;have n1:IntKind.i64.wrap (9+(key:Int))=9+(key:Int):=by rw[IntKind.wrap_i64];omega
 have HL:Hid (∀ w',Rep A σ w'→Calls Tryz.prog 42 #[.pointer (some ⟨A.ba,0,none⟩),zi (9+(key:Int))] w' (Did A w' σ.tick (zu (σ.word (9+key):Int)))):=fun w' r=>load_i r (9+key) (9+(key:Int)) (by omega) (by rw[r.nw];omega) hcnt
 have HRd:Hid (Rep A σ w.drew):=hR.drew;have HKK:Hid (∀ w',Rep A σ.tick w'→Grow A.L w A.L w'→w'.cell? ⟨b0,0,none⟩=some (.pointer (some ⟨A.be,0,none⟩))∧w'.cell? ⟨b1,0,none⟩=some (zi (key:Int))∧w'.cell? ⟨A.be,2,none⟩=some (.pointer (some ⟨A.ba,0,none⟩))):=fun w' r g=>⟨(B0.grow g).cell,(B1.grow g).cell,r.eng 2 rfl⟩
 have HKS:Hid (∀ w' x,Rep A σ.tick w'→Grow A.L w A.L w'→(w'.setCell ⟨A.be,25,none⟩ x).cell? ⟨b0,0,none⟩=some (.pointer (some ⟨A.be,0,none⟩))∧(w'.setCell ⟨A.be,25,none⟩ x).cell? ⟨b1,0,none⟩=some (zi (key:Int))∧(w'.setCell ⟨A.be,25,none⟩ x).cell? ⟨A.be,2,none⟩=some (.pointer (some ⟨A.ba,0,none⟩))):=fun w' x r g=>let ⟨r',g'⟩:=r.sweepSet x .now;⟨(B0.grow (g.trans g')).cell,(B1.grow (g.trans g')).cell,r'.eng 2 rfl⟩
 have HM:Hid (∀ w',Rep A σ.tick w'→Calls Tryz.prog 160 #[.pointer (some ⟨A.be,0,none⟩),zi (key:Int),zu 0,zu (σ.word (9+key):Int)] w' (STells A σ.tick w' (visitS key 0 (σ.word (9+key))))):=fun w' r=>svisit_any r key 0 (σ.word (9+key)) hk
 have HG:=zG A.L w;clear hR hcnt B0 B1;have HRES:σ.sweepRun (.head key)=({σ.tick with sw:=visitS key 0 (σ.word (9+key))},false):=rfl;rw[HRES];generalize visitS key 0 (σ.word (9+key))=kk at*;generalize (σ.word (9+key):Int)=hd at*
 cases kk with
 |none=>
  go_enter Tryz.func159,Tryz.ntmps159;go_wp2_with fail
  go_region_held3 (fun w'=>w'.cell? ⟨b0,0,none⟩=some (.pointer (some ⟨A.be,0,none⟩))∧w'.cell? ⟨b1,0,none⟩=some (zi (key:Int))∧w'.cell? ⟨A.be,2,none⟩=some (.pointer (some ⟨A.ba,0,none⟩)))
   (first|exact⟨c0,c1,e2⟩|assumption|go_keep|exact HKK.out _ (by assumption) (by assumption)|exact HKS.out _ _ (by assumption) (by assumption))
   (first|(go_at_call 42;refine (HL.out _ HRd.out).mono ?_;rintro e w1 ⟨rfl,q1,q2⟩;have q4:=HG.out.trans q2)|(go_at_call 160;refine (HM.out _ (by assumption)).mono ?_;rintro e w2 ⟨v,rfl,p1,p2,p3⟩;have e3:v=.nilFunc:=p3;subst e3;obtain⟨vo,y25⟩:∃ vo,w2.cell? ⟨A.be,25,none⟩=some vo:=⟨_,p1.eng 25 (v:=A.sv σ.tick.sw) rfl⟩;have z25:=p1.engF 25;have q5:=q4.trans p2;have HP:=zH p3;clear p2 p3))
  go_wp2_with fail;go_ret;obtain⟨A',a1,a2,a3,a4,a5⟩:=p1.sweepPut _ _ HP.out;exact⟨rfl,A',a1,a3,q5.trans a4,a5,fun hc=>hc.keep a2 rfl (q5.trans a4)⟩
 |some kx=>
  go_enter Tryz.func159,Tryz.ntmps159;go_wp2_with fail
  go_region_held3 (fun w'=>w'.cell? ⟨b0,0,none⟩=some (.pointer (some ⟨A.be,0,none⟩))∧w'.cell? ⟨b1,0,none⟩=some (zi (key:Int))∧w'.cell? ⟨A.be,2,none⟩=some (.pointer (some ⟨A.ba,0,none⟩)))
   (first|exact⟨c0,c1,e2⟩|assumption|go_keep|exact HKK.out _ (by assumption) (by assumption)|exact HKS.out _ _ (by assumption) (by assumption))
   (first|(go_at_call 42;refine (HL.out _ HRd.out).mono ?_;rintro e w1 ⟨rfl,q1,q2⟩;have q4:=HG.out.trans q2)|(go_at_call 160;refine (HM.out _ (by assumption)).mono ?_;rintro e w2 ⟨v,rfl,p1,p2,p3⟩;obtain⟨fv,fb,fc,e3⟩:=SRep.form p3;subst e3;obtain⟨vo,y25⟩:∃ vo,w2.cell? ⟨A.be,25,none⟩=some vo:=⟨_,p1.eng 25 (v:=A.sv σ.tick.sw) rfl⟩;have z25:=p1.engF 25;have q5:=q4.trans p2;have HP:=zH p3;clear p2 p3))
  go_wp2_with fail;go_ret;obtain⟨A',a1,a2,a3,a4,a5⟩:=p1.sweepPut _ _ HP.out;exact⟨rfl,A',a1,a3,q5.trans a4,a5,fun hc=>hc.keep a2 rfl (q5.trans a4)⟩
theorem k_on (hR:Rep A σ w) (key link:Nat) (hk:key≤63) (hv:VL σ link) (hcnt:σ.count<4000000000000000000) (b0:Nat) (b1:Nat) (b2:Nat) (B0:Box A.L w b0 (.pointer (some ⟨A.be,0,none⟩))) (B1:Box A.L w b1 (zi (key:Int))) (B2:Box A.L w b2 (zu (link:Int))):
 Calls Tryz.prog 209 #[.pointer (some ⟨b0,0,none⟩),.pointer (some ⟨b1,0,none⟩),.pointer (some ⟨b2,0,none⟩)] w (SRan A σ w (σ.sweepRun (.on key link))):=by
 have c0:=B0.cell;have c1:=B1.cell;have c2:=B2.cell;have e2:=hR.z2;have hsl:=hR.sl;have HS:=zH (slot_at link 2 2 rfl hv.lo (by have:=hv.hi;omega) hv.u (by omega));have HL:Hid (∀ w',Rep A σ w'→Calls Tryz.prog 42 #[.pointer (some ⟨A.ba,0,none⟩),zi (((wslot link 2:Nat):Int))] w' (Did A w' σ.tick (zu (σ.word (wslot link 2):Int)))):=fun w' r=>load_i r (wslot link 2) (((wslot link 2:Nat):Int)) rfl (wslot_lt r hv.lo hv.hi (by omega)) hcnt
 have HRd:Hid (Rep A σ w.drew):=hR.drew;have HKK:Hid (∀ w',Rep A σ.tick w'→Grow A.L w A.L w'→w'.cell? ⟨b0,0,none⟩=some (.pointer (some ⟨A.be,0,none⟩))∧w'.cell? ⟨b1,0,none⟩=some (zi (key:Int))∧w'.cell? ⟨b2,0,none⟩=some (zu (link:Int))∧w'.cell? ⟨A.be,2,none⟩=some (.pointer (some ⟨A.ba,0,none⟩))):=fun w' r g=>⟨(B0.grow g).cell,(B1.grow g).cell,(B2.grow g).cell,r.eng 2 rfl⟩
 have HKS:Hid (∀ w' x,Rep A σ.tick w'→Grow A.L w A.L w'→(w'.setCell ⟨A.be,25,none⟩ x).cell? ⟨b0,0,none⟩=some (.pointer (some ⟨A.be,0,none⟩))∧(w'.setCell ⟨A.be,25,none⟩ x).cell? ⟨b1,0,none⟩=some (zi (key:Int))∧(w'.setCell ⟨A.be,25,none⟩ x).cell? ⟨b2,0,none⟩=some (zu (link:Int))∧(w'.setCell ⟨A.be,25,none⟩ x).cell? ⟨A.be,2,none⟩=some (.pointer (some ⟨A.ba,0,none⟩))):=fun w' x r g=>let ⟨r',g'⟩:=r.sweepSet x .now;⟨(B0.grow (g.trans g')).cell,(B1.grow (g.trans g')).cell,(B2.grow (g.trans g')).cell,r'.eng 2 rfl⟩
 have HM:Hid (∀ w',Rep A σ.tick w'→Calls Tryz.prog 160 #[.pointer (some ⟨A.be,0,none⟩),zi (key:Int),zu (link:Int),zu (σ.word (wslot link 2):Int)] w' (STells A σ.tick w' (visitS key link (σ.word (wslot link 2))))):=fun w' r=>svisit_any r key link (σ.word (wslot link 2)) hk
 have HG:=zG A.L w;clear hR hcnt B0 B1 B2;have HRES:σ.sweepRun (.on key link)=({σ.tick with sw:=visitS key link (σ.word (wslot link 2))},false):=rfl;rw[HRES];clear hv hsl;generalize visitS key link (σ.word (wslot link 2))=kk at*;generalize (σ.word (wslot link 2):Int)=hd at*;generalize ((wslot link 2:Nat):Int)=ix at*
 cases kk with
 |none=>
  go_enter Tryz.func209,Tryz.ntmps209;go_wp2_with fail
  go_region_held3 (fun w'=>w'.cell? ⟨b0,0,none⟩=some (.pointer (some ⟨A.be,0,none⟩))∧w'.cell? ⟨b1,0,none⟩=some (zi (key:Int))∧w'.cell? ⟨b2,0,none⟩=some (zu (link:Int))∧w'.cell? ⟨A.be,2,none⟩=some (.pointer (some ⟨A.ba,0,none⟩)))
   (first|exact⟨c0,c1,c2,e2⟩|assumption|go_keep|exact HKK.out _ (by assumption) (by assumption)|exact HKS.out _ _ (by assumption) (by assumption))
   (first|(go_at_call 42;refine (HL.out _ HRd.out).mono ?_;rintro e w1 ⟨rfl,q1,q2⟩;have q4:=HG.out.trans q2)|(go_at_call 85;refine (HS.out _).mono ?_;rintro e w9 ⟨rfl,rfl⟩)|(go_at_call 160;refine (HM.out _ (by assumption)).mono ?_;rintro e w2 ⟨v,rfl,p1,p2,p3⟩;have e3:v=.nilFunc:=p3;subst e3;obtain⟨vo,y25⟩:∃ vo,w2.cell? ⟨A.be,25,none⟩=some vo:=⟨_,p1.eng 25 (v:=A.sv σ.tick.sw) rfl⟩;have z25:=p1.engF 25;have q5:=q4.trans p2;have HP:=zH p3;clear p2 p3))
  go_wp2_with fail;go_ret;obtain⟨A',a1,a2,a3,a4,a5⟩:=p1.sweepPut _ _ HP.out;exact⟨rfl,A',a1,a3,q5.trans a4,a5,fun hc=>hc.keep a2 rfl (q5.trans a4)⟩
 |some kx=>
  go_enter Tryz.func209,Tryz.ntmps209;go_wp2_with fail
  go_region_held3 (fun w'=>w'.cell? ⟨b0,0,none⟩=some (.pointer (some ⟨A.be,0,none⟩))∧w'.cell? ⟨b1,0,none⟩=some (zi (key:Int))∧w'.cell? ⟨b2,0,none⟩=some (zu (link:Int))∧w'.cell? ⟨A.be,2,none⟩=some (.pointer (some ⟨A.ba,0,none⟩)))
   (first|exact⟨c0,c1,c2,e2⟩|assumption|go_keep|exact HKK.out _ (by assumption) (by assumption)|exact HKS.out _ _ (by assumption) (by assumption))
   (first|(go_at_call 42;refine (HL.out _ HRd.out).mono ?_;rintro e w1 ⟨rfl,q1,q2⟩;have q4:=HG.out.trans q2)|(go_at_call 85;refine (HS.out _).mono ?_;rintro e w9 ⟨rfl,rfl⟩)|(go_at_call 160;refine (HM.out _ (by assumption)).mono ?_;rintro e w2 ⟨v,rfl,p1,p2,p3⟩;obtain⟨fv,fb,fc,e3⟩:=SRep.form p3;subst e3;obtain⟨vo,y25⟩:∃ vo,w2.cell? ⟨A.be,25,none⟩=some vo:=⟨_,p1.eng 25 (v:=A.sv σ.tick.sw) rfl⟩;have z25:=p1.engF 25;have q5:=q4.trans p2;have HP:=zH p3;clear p2 p3))
  go_wp2_with fail;go_ret;obtain⟨A',a1,a2,a3,a4,a5⟩:=p1.sweepPut _ _ HP.out;exact⟨rfl,A',a1,a3,q5.trans a4,a5,fun hc=>hc.keep a2 rfl (q5.trans a4)⟩
theorem k_unlink (hR:Rep A σ w) (key ahead link:Nat) (hv:VL σ link) (hcnt:σ.count<4000000000000000000) (b0:Nat) (b1:Nat) (b2:Nat) (b3:Nat) (B0:Box A.L w b0 (.pointer (some ⟨A.be,0,none⟩))) (B1:Box A.L w b1 (zu (link:Int))) (B2:Box A.L w b2 (zi (key:Int))) (B3:Box A.L w b3 (zu (ahead:Int))):
 Calls Tryz.prog 207 #[.pointer (some ⟨b0,0,none⟩),.pointer (some ⟨b1,0,none⟩),.pointer (some ⟨b2,0,none⟩),.pointer (some ⟨b3,0,none⟩)] w (SRan A σ w (σ.sweepRun (.unlink key ahead link))):=by
 have c0:=B0.cell;have c1:=B1.cell;have c2:=B2.cell;have c3:=B3.cell;have e2:=hR.z2;have hsl:=hR.sl;have HS:=zH (slot_at link 2 2 rfl hv.lo (by have:=hv.hi;omega) hv.u (by omega));have HL:Hid (∀ w',Rep A σ w'→Calls Tryz.prog 42 #[.pointer (some ⟨A.ba,0,none⟩),zi (((wslot link 2:Nat):Int))] w' (Did A w' σ.tick (zu (σ.word (wslot link 2):Int)))):=fun w' r=>load_i r (wslot link 2) (((wslot link 2:Nat):Int)) rfl (wslot_lt r hv.lo hv.hi (by omega)) hcnt
 have HRd:Hid (Rep A σ w.drew):=hR.drew;have HKK:Hid (∀ w',Rep A σ.tick w'→Grow A.L w A.L w'→w'.cell? ⟨b0,0,none⟩=some (.pointer (some ⟨A.be,0,none⟩))∧w'.cell? ⟨b1,0,none⟩=some (zu (link:Int))∧w'.cell? ⟨b2,0,none⟩=some (zi (key:Int))∧w'.cell? ⟨b3,0,none⟩=some (zu (ahead:Int))∧w'.cell? ⟨A.be,2,none⟩=some (.pointer (some ⟨A.ba,0,none⟩))):=fun w' r g=>⟨(B0.grow g).cell,(B1.grow g).cell,(B2.grow g).cell,(B3.grow g).cell,r.eng 2 rfl⟩
 have HKS:Hid (∀ w' x,Rep A σ.tick w'→Grow A.L w A.L w'→(w'.setCell ⟨A.be,25,none⟩ x).cell? ⟨b0,0,none⟩=some (.pointer (some ⟨A.be,0,none⟩))∧(w'.setCell ⟨A.be,25,none⟩ x).cell? ⟨b1,0,none⟩=some (zu (link:Int))∧(w'.setCell ⟨A.be,25,none⟩ x).cell? ⟨b2,0,none⟩=some (zi (key:Int))∧(w'.setCell ⟨A.be,25,none⟩ x).cell? ⟨b3,0,none⟩=some (zu (ahead:Int))∧(w'.setCell ⟨A.be,25,none⟩ x).cell? ⟨A.be,2,none⟩=some (.pointer (some ⟨A.ba,0,none⟩))):=fun w' x r g=>let ⟨r',g'⟩:=r.sweepSet x .now;⟨(B0.grow (g.trans g')).cell,(B1.grow (g.trans g')).cell,(B2.grow (g.trans g')).cell,(B3.grow (g.trans g')).cell,r'.eng 2 rfl⟩
 have HM:Hid (∀ w',Rep A σ.tick w'→Calls Tryz.prog 208 #[.pointer (some ⟨A.be,0,none⟩),zi (key:Int),zu (ahead:Int),zu (link:Int),zu (σ.word (wslot link 2):Int)] w' (STells A σ.tick w' (some (.cut key ahead link (σ.word (wslot link 2)))))):=fun w' r=>scut_any r key ahead link (σ.word (wslot link 2))
 have HG:=zG A.L w;clear hR hcnt B0 B1 B2 B3;have HRES:σ.sweepRun (.unlink key ahead link)=({σ.tick with sw:=some (.cut key ahead link (σ.word (wslot link 2)))},true):=rfl;rw[HRES];clear hv hsl;generalize hkk:S.cut key ahead link (σ.word (wslot link 2))=kk at*;clear hkk;generalize (σ.word (wslot link 2):Int)=hd at*;generalize ((wslot link 2:Nat):Int)=ix at*;go_enter Tryz.func207,Tryz.ntmps207;go_wp2_with fail
 go_region_held3 (fun w'=>w'.cell? ⟨b0,0,none⟩=some (.pointer (some ⟨A.be,0,none⟩))∧w'.cell? ⟨b1,0,none⟩=some (zu (link:Int))∧w'.cell? ⟨b2,0,none⟩=some (zi (key:Int))∧w'.cell? ⟨b3,0,none⟩=some (zu (ahead:Int))∧w'.cell? ⟨A.be,2,none⟩=some (.pointer (some ⟨A.ba,0,none⟩)))
  (first|exact⟨c0,c1,c2,c3,e2⟩|assumption|go_keep|exact HKK.out _ (by assumption) (by assumption))
  (first|(go_at_call 85;refine (HS.out _).mono ?_;rintro e w9 ⟨rfl,rfl⟩)|(go_at_call 42;refine (HL.out _ HRd.out).mono ?_;rintro e w1 ⟨rfl,q1,q2⟩;have q4:=HG.out.trans q2))
 obtain⟨d0,d1,d2,d3,d9⟩:=HKK.out _ q1 q4;have HQ1:=zH q1.drew;have HG1:=zH (q4.trans (Grow.drew _ _));go_wp2_with fail
 go_region_held3 (fun w'=>w'.cell? ⟨b0,0,none⟩=some (.pointer (some ⟨A.be,0,none⟩))∧w'.cell? ⟨b1,0,none⟩=some (zu (link:Int))∧w'.cell? ⟨b2,0,none⟩=some (zi (key:Int))∧w'.cell? ⟨b3,0,none⟩=some (zu (ahead:Int))∧w'.cell? ⟨A.be,2,none⟩=some (.pointer (some ⟨A.ba,0,none⟩)))
  (first|exact⟨d0,d1,d2,d3,d9⟩|assumption|go_keep|exact HKK.out _ (by assumption) (by assumption)|exact HKS.out _ _ (by assumption) (by assumption))
  (first|(go_at_call 208;refine (HM.out _ HQ1.out).mono ?_;rintro e w2 ⟨v,rfl,p1,p2,p3⟩;obtain⟨fv,fb,fc,e3⟩:=SRep.form p3;subst e3;obtain⟨vo,y25⟩:∃ vo,w2.cell? ⟨A.be,25,none⟩=some vo:=⟨_,p1.eng 25 (v:=A.sv σ.tick.sw) rfl⟩;have z25:=p1.engF 25;have q5:=HG1.out.trans p2;have HP:=zH p3;clear p2 p3))
 go_wp2_with fail;go_ret;obtain⟨A',a1,a2,a3,a4,a5⟩:=p1.sweepPut _ _ HP.out;exact⟨rfl,A',a1,a3,q5.trans a4,a5,fun hc=>hc.keep a2 rfl (q5.trans a4)⟩
end Go.Proofs.YthicolbbmjfkfaaGreat.Em
