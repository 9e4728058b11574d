import Derived.Test.YthicolbbmjfkfaaGreatQn19
import Derived.Test.YthicolbbmjfkfaaGreatQn17
set_option linter.unusedVariables false
set_option linter.unusedSimpArgs false
set_option maxRecDepth 100000
set_option maxHeartbeats 1600000
namespace Go.Proofs.YthicolbbmjfkfaaGreat.Em
open Go.ChangeShapes Go.WideShapes Go.ChangeAt Go.RowKit En
variable {A:au} {D:St} {w:World}
theorem Gs (hR:aC A D w) (F ak G id:Nat) (hid:id<=65535) (hpl:D.place id<D.words.length) (hw:D.word (D.place id)<18446744073709551616) (h4:(bz (D.word (D.place id))=4)=True) (aL:D.count<4000000000000000000) (b0:Nat) (b1:Nat) (b2:Nat) (b3:Nat) (b4:Nat) (B0:aN A.L w b0 (R A.H 0)) (B1:aN A.L w b1 (I id)) (B2:aN A.L w b2 (I F)) (B3:aN A.L w b3 (zu ak)) (B4:aN A.L w b4 (zu G)):
 zk 195 #[R b0 0,R b1 0,R b2 0,R b3 0,R b4 0] w (tN A D w (D.aG (.maker F ak G id))):=by
 have c0:=B0.cell;have c1:=B1.cell;have c2:=B2.cell;have c3:=B3.cell;have c4:=B4.cell;have e2:=hR.z2;have Rn:=zH (fu hR.drew id hid);have HU:=zH (fun E=>jl (D.word (D.place id)) hw E);have HL:Hid (∀ E,aC A D E->zk 42 #[R A.ba 0,I (((D.place id:Nat):Int))] E (vC A E D.tick (zu (D.word (D.place id):Int)))):=fun E r=>iK r (D.place id) (((D.place id:Nat):Int)) rfl hpl aL
 have nT:Hid (aC A D w.drew):=hR.drew;have HKK:Hid (∀ E,aC A D.tick E->Grow A.L w A.L E->zS E b0 0 A.H 0∧zT E b1 0 id∧zT E b2 0 F∧zV E b3 0 ak∧zV E b4 0 G∧zS E A.H 2 A.ba 0):=fun E r g=>⟨(B0.grow g).cell,(B1.grow g).cell,(B2.grow g).cell,(B3.grow g).cell,(B4.grow g).cell,r.df 2 rfl⟩
 have vH:Hid (∀ E x,aC A D.tick E->Grow A.L w A.L E->zS (E.setCell (J A.H 25) x) b0 0 A.H 0∧zT (E.setCell (J A.H 25) x) b1 0 id∧zT (E.setCell (J A.H 25) x) b2 0 F∧zV (E.setCell (J A.H 25) x) b3 0 ak∧zV (E.setCell (J A.H 25) x) b4 0 G∧zS (E.setCell (J A.H 25) x) A.H 2 A.ba 0):=fun E x r g=>let ⟨r',g'⟩:=r.fK x .now;⟨(B0.grow (g.trans g')).cell,(B1.grow (g.trans g')).cell,(B2.grow (g.trans g')).cell,(B3.grow (g.trans g')).cell,(B4.grow (g.trans g')).cell,r'.df 2 rfl⟩
 have HM:Hid (∀ E,aC A D.tick E->zk 196 #[R A.H 0,I F,zu ak,zu G] E (iL A D.tick E (some (.unlink F ak G)))):=fun E r=>vG r F ak G
 have HG:=zG A.L w;clear hR aL B0 B1 B2 B3 B4;have jK:D.aG (.maker F ak G id)=({D.tick with sw:=some (.unlink F ak G)},false):=by simp only[St.aG,h4];rfl
 rw[jK];have f1:((bz (D.word (D.place id)):Int)=4)=True:=by have:=h4;simp at this ⊢;omega
 have f2:((bz (D.word (D.place id)):Int)==4)=true:=by have:=h4;simp at this ⊢;omega
 clear hid hpl hw h4;generalize (bz (D.word (D.place id)):Int)=zs at*;generalize (gX (D.word (D.place id)):Int)=ze at*;generalize (D.word (D.place id):Int)=hd at*;generalize ((D.place id:Nat):Int)=ix at*;go_enter Tryz.func195,Tryz.ntmps195;go_wp2_with fail
 go_region_held3 (fun E=>zS E b0 0 A.H 0∧zT E b1 0 id∧zT E b2 0 F∧zV E b3 0 ak∧zV E b4 0 G∧zS E A.H 2 A.ba 0)
  (first|exact⟨c0,c1,c2,c3,c4,e2⟩|assumption|go_keep|exact HKK.out _ (by assumption) (by assumption))
  (first|(go_at_call 48;refine Rn.out.mono ?_;rintro e w9 ⟨rfl,rfl⟩)|(go_at_call 42;refine (HL.out _ nT.out).mono ?_;rintro e Y ⟨rfl,q1,q2⟩;have q4:=HG.out.trans q2)|(go_at_call 109;refine (HU.out _).mono ?_;rintro e w9 ⟨rfl,rfl⟩))
 obtain⟨d0,d1,d2,d3,d4,d9⟩:=HKK.out _ q1 q4;have uK:=zH q1.drew;have Bq:=zH (q4.trans (Grow.drew _ _));go_wp2_with fail
 go_region_held3 (fun E=>zS E b0 0 A.H 0∧zT E b1 0 id∧zT E b2 0 F∧zV E b3 0 ak∧zV E b4 0 G∧zS E A.H 2 A.ba 0)
  (first|exact⟨d0,d1,d2,d3,d4,d9⟩|assumption|go_keep|exact HKK.out _ (by assumption) (by assumption)|exact vH.out _ _ (by assumption) (by assumption))
  (first|(go_at_call 196;refine (HM.out _ uK.out).mono ?_;rintro e w2 ⟨v,rfl,p1,p2,p3⟩;obtain⟨fv,fb,fc,e3⟩:=jm.form p3;subst e3;obtain⟨vo,y25⟩:∃ vo,w2.cell? (J A.H 25)=some vo:=⟨_,p1.df 25 (v:=A.sv D.tick.sw) rfl⟩;have z25:=p1.iC 25;have q5:=Bq.out.trans p2;have HP:=zH p3;clear p2 p3))
 go_wp2_with fail;go_ret;obtain⟨A',a1,a2,a3,a4,a5⟩:=p1.eT _ _ HP.out;exact⟨rfl,A',a1,a3,q5.trans a4,a5,fun hc=>hc.keep a2 rfl (q5.trans a4)⟩
theorem Gt (hR:aC A D w) (F ak G id:Nat) (hid:id<=65535) (hpl:D.place id<D.words.length) (hw:D.word (D.place id)<18446744073709551616) (h4:(bz (D.word (D.place id))=4)=False) (aL:D.count<4000000000000000000) (b0:Nat) (b1:Nat) (b2:Nat) (b3:Nat) (b4:Nat) (B0:aN A.L w b0 (R A.H 0)) (B1:aN A.L w b1 (I id)) (B2:aN A.L w b2 (I F)) (B3:aN A.L w b3 (zu ak)) (B4:aN A.L w b4 (zu G)):
 zk 195 #[R b0 0,R b1 0,R b2 0,R b3 0,R b4 0] w (tN A D w (D.aG (.maker F ak G id))):=by
 have c0:=B0.cell;have c1:=B1.cell;have c2:=B2.cell;have c3:=B3.cell;have c4:=B4.cell;have e2:=hR.z2;have Rn:=zH (fu hR.drew id hid);have HU:=zH (fun E=>jl (D.word (D.place id)) hw E);have HL:Hid (∀ E,aC A D E->zk 42 #[R A.ba 0,I (((D.place id:Nat):Int))] E (vC A E D.tick (zu (D.word (D.place id):Int)))):=fun E r=>iK r (D.place id) (((D.place id:Nat):Int)) rfl hpl aL
 have nT:Hid (aC A D w.drew):=hR.drew;have HKK:Hid (∀ E,aC A D.tick E->Grow A.L w A.L E->zS E b0 0 A.H 0∧zT E b1 0 id∧zT E b2 0 F∧zV E b3 0 ak∧zV E b4 0 G∧zS E A.H 2 A.ba 0):=fun E r g=>⟨(B0.grow g).cell,(B1.grow g).cell,(B2.grow g).cell,(B3.grow g).cell,(B4.grow g).cell,r.df 2 rfl⟩
 have vH:Hid (∀ E x,aC A D.tick E->Grow A.L w A.L E->zS (E.setCell (J A.H 25) x) b0 0 A.H 0∧zT (E.setCell (J A.H 25) x) b1 0 id∧zT (E.setCell (J A.H 25) x) b2 0 F∧zV (E.setCell (J A.H 25) x) b3 0 ak∧zV (E.setCell (J A.H 25) x) b4 0 G∧zS (E.setCell (J A.H 25) x) A.H 2 A.ba 0):=fun E x r g=>let ⟨r',g'⟩:=r.fK x .now;⟨(B0.grow (g.trans g')).cell,(B1.grow (g.trans g')).cell,(B2.grow (g.trans g')).cell,(B3.grow (g.trans g')).cell,(B4.grow (g.trans g')).cell,r'.df 2 rfl⟩
 have HM:Hid (∀ E,aC A D.tick E->zk 197 #[R A.H 0,I F,zu G] E (iL A D.tick E (some (.on F G)))):=fun E r=>Ig r F G
 have HG:=zG A.L w;clear hR aL B0 B1 B2 B3 B4;have jK:D.aG (.maker F ak G id)=({D.tick with sw:=some (.on F G)},false):=by simp only[St.aG,h4];rfl
 rw[jK];have f1:((bz (D.word (D.place id)):Int)=4)=False:=by have:=h4;simp at this ⊢;omega
 have f2:((bz (D.word (D.place id)):Int)==4)=false:=by have:=h4;simp at this ⊢;omega
 clear hid hpl hw h4;generalize (bz (D.word (D.place id)):Int)=zs at*;generalize (gX (D.word (D.place id)):Int)=ze at*;generalize (D.word (D.place id):Int)=hd at*;generalize ((D.place id:Nat):Int)=ix at*;go_enter Tryz.func195,Tryz.ntmps195;go_wp2_with fail
 go_region_held3 (fun E=>zS E b0 0 A.H 0∧zT E b1 0 id∧zT E b2 0 F∧zV E b3 0 ak∧zV E b4 0 G∧zS E A.H 2 A.ba 0)
  (first|exact⟨c0,c1,c2,c3,c4,e2⟩|assumption|go_keep|exact HKK.out _ (by assumption) (by assumption))
  (first|(go_at_call 48;refine Rn.out.mono ?_;rintro e w9 ⟨rfl,rfl⟩)|(go_at_call 42;refine (HL.out _ nT.out).mono ?_;rintro e Y ⟨rfl,q1,q2⟩;have q4:=HG.out.trans q2)|(go_at_call 109;refine (HU.out _).mono ?_;rintro e w9 ⟨rfl,rfl⟩))
 obtain⟨d0,d1,d2,d3,d4,d9⟩:=HKK.out _ q1 q4;have uK:=zH q1.drew;have Bq:=zH (q4.trans (Grow.drew _ _));go_wp2_with fail
 go_region_held3 (fun E=>zS E b0 0 A.H 0∧zT E b1 0 id∧zT E b2 0 F∧zV E b3 0 ak∧zV E b4 0 G∧zS E A.H 2 A.ba 0)
  (first|exact⟨d0,d1,d2,d3,d4,d9⟩|assumption|go_keep|exact HKK.out _ (by assumption) (by assumption)|exact vH.out _ _ (by assumption) (by assumption))
  (first|(go_at_call 197;refine (HM.out _ uK.out).mono ?_;rintro e w2 ⟨v,rfl,p1,p2,p3⟩;obtain⟨fv,fb,fc,e3⟩:=jm.form p3;subst e3;obtain⟨vo,y25⟩:∃ vo,w2.cell? (J A.H 25)=some vo:=⟨_,p1.df 25 (v:=A.sv D.tick.sw) rfl⟩;have z25:=p1.iC 25;have q5:=Bq.out.trans p2;have HP:=zH p3;clear p2 p3))
 go_wp2_with fail;go_ret;obtain⟨A',a1,a2,a3,a4,a5⟩:=p1.eT _ _ HP.out;exact⟨rfl,A',a1,a3,q5.trans a4,a5,fun hc=>hc.keep a2 rfl (q5.trans a4)⟩
theorem JN (hR:aC A D w) (hC:iW A D.cut) (hcut:D.cut=[]):
 zk 73 #[R A.H 0] w fun e E=>e=.returned (.bool false)∧Below w.heap.size w E:=by
 have y:w.cell? (J A.H 27)=some A.iV:=hR.df 27 rfl;obtain⟨a,c,e⟩:∃ a c,A.iV=.slice a 0 c:=by
  rcases hC with ⟨-,h,-⟩|⟨-,k,cap,h,-⟩
  . exact⟨_,_,h⟩
  . rw[hcut] at h;exact⟨_,_,h⟩
 rw[e] at y;clear hR hcut e hC;go_enter Tryz.func73,Tryz.ntmps73;go_wp2;go_ret;exact⟨rfl,Below.refl _ _⟩
theorem Ed (v:Nat->Value) (k:Nat) (Z:k<8) (w:World):(Instr.index 106 (.agg #[v 0,v 1,v 2,v 3,v 4,v 5,v 6,v 7]) (I k)).run Tryz.prog w=.ok (v k) w:=by
 have h:k=0∨k=1∨k=2∨k=3∨k=4∨k=5∨k=6∨k=7:=by omega
 rcases h with rfl|rfl|rfl|rfl|rfl|rfl|rfl|rfl<;>rfl
def behind (seq:Nat) (c:Option dN):Bool:=match c with|some c=>decide (seq<c.seq)|none=>true
def UN (A:au) (D:St) (w:World) (G seq:Nat) (rest:List (Nat×Nat)):Ending->World->Prop:=fun e E=>
 (∃ q,q<8∧behind seq (D.calls.getD q none)=false∧e=.returned (.bool false)∧Below w.heap.size w E)∨
 ((∀ q,q<8->behind seq (D.calls.getD q none)=true)∧e=.returned (.bool true)∧∃ A',kK A A'∧A'.dX=A.dX∧aC A' {D.give G with cut:=rest} E∧Grow A.L w A'.L E∧iW A' rest)
theorem Ah (hL:Live A D w) (G seq:Nat) (rest:List (Nat×Nat)) (hv:VL D G) (hp:iR D) (hcut:D.cut=(G,seq)::rest) (hln:D.cut.length<1000000):
 zk 73 #[R A.H 0] w (UN A D w G seq rest):=by
 have hR:=hL.rep;have hck:=hL.sx.cu;rw[hcut] at hck;obtain⟨kk,c,hh,uB,hn1,hcm,hkl,hct,hc0,hc1⟩:=hck.tail;have he:bq A D .cut=.obj A.fP A.dV 203:=by simp only[bq,hh,cond_true]
 have ylk:w.cell? ⟨A.fP,2*kk,none⟩=zv G:=hR.mem.cell he (2*kk) hc0;have ysq:w.cell? ⟨A.fP,2*kk+1,none⟩=zt seq:=hR.mem.cell he (2*kk+1) hc1;obtain⟨nr,hnr⟩:∃ nr,nr=rest.length+1:=⟨_,rfl⟩
 rw[<-hnr] at uB hn1;have y27:w.cell? (J A.H 27)=some (.slice (some ⟨A.fP,2*kk,none⟩) nr c):=(hR.df 27 rfl).trans (congrArg some uB);have y3:w.cell? (J A.H 3)=zs A.bp 0:=hR.df 3 rfl;obtain⟨vc,xP⟩:∃ vc:Nat->Value,vc=A.bF:=⟨_,rfl⟩
 have z0:w.cell? (J A.H 13)=some (vc 0):=(hR.df 13 (v:=A.bF 0) rfl).trans (by rw[xP]);have z1:w.cell? (J A.H 14)=some (vc 1):=(hR.df 14 (v:=A.bF 1) rfl).trans (by rw[xP]);have z2:w.cell? (J A.H 15)=some (vc 2):=(hR.df 15 (v:=A.bF 2) rfl).trans (by rw[xP]);have z3:w.cell? (J A.H 16)=some (vc 3):=(hR.df 16 (v:=A.bF 3) rfl).trans (by rw[xP]);have z4:w.cell? (J A.H 17)=some (vc 4):=(hR.df 17 (v:=A.bF 4) rfl).trans (by rw[xP]);have z5:w.cell? (J A.H 18)=some (vc 5):=(hR.df 18 (v:=A.bF 5) rfl).trans (by rw[xP]);have z6:w.cell? (J A.H 19)=some (vc 6):=(hR.df 19 (v:=A.bF 6) rfl).trans (by rw[xP]);have z7:w.cell? (J A.H 20)=some (vc 7):=(hR.df 20 (v:=A.bF 7) rfl).trans (by rw[xP]);have ZB:((nr:Int)==0)=false:=by simp;omega
 have ZC:((nr:Int)=0)=False:=by simp;omega
 have ZE:(nr=0)=False:=by simp;omega
 have ZF:((0:Int)<(nr:Int))=True:=by simp;omega
 have ZG:(0<nr)=True:=by simp;omega
 have UO:=zH (zA hnr hn1);have HX:=zH (zA hL (zA hv (zA hp (zA xP hct))));have ZH:Hid (∀ k,k<8->∀ Y,Below w.heap.size w Y->vc k=.pointer none∧behind seq (D.calls.getD k none)=true∨∃ (b cq:Nat),vc k=R b 0∧zT Y b 12 cq∧behind seq (D.calls.getD k none)=decide (seq<cq)):=fun k Z Y hb=>by
  rw[xP]
  cases hcc:D.calls.getD k none with
  |none=>exact .inl ⟨hL.idle k Z hcc,rfl⟩
  |some cc=>
   refine .inr ⟨A.bc k,cc.seq,(hL.call k Z cc hcc).1,?_,rfl⟩;exact (hR.below hb).call hcc 12 rfl
 have qf:Hid (∀ Y,Below w.heap.size w Y->zS Y A.H 3 A.bp 0∧Y.cell? (J A.H 27)=some (.slice (some ⟨A.fP,2*kk,none⟩) nr c)∧Y.cell? ⟨A.fP,2*kk,none⟩=zv G∧Y.cell? ⟨A.fP,2*kk+1,none⟩=zt seq):=fun Y hb=>by
  have r:=hR.below hb;exact⟨r.df 3 rfl,(r.df 27 rfl).trans (congrArg some uB),r.mem.cell he (2*kk) hc0,r.mem.cell he (2*kk+1) hc1⟩
 have Yv:Hid (∀ A' w2,oJ A A'->aC A' (D.give G) w2->zS w2 A.H 3 A.bp 0∧w2.cell? (J A.H 27)=some (.slice (some ⟨A.fP,2*kk,none⟩) nr c)∧w2.cell? ⟨A.fP,2*kk,none⟩=zv G∧w2.cell? ⟨A.fP,2*kk+1,none⟩=zt seq):=fun A' w2 hfo r=>by
  obtain⟨L,v,rfl⟩:=hfo;exact⟨r.df 3 rfl,(r.df 27 rfl).trans (congrArg some uB),r.mem.cell (r:=.cut) (b:=A.fP) (cs:=A.dV) (by simp only[bq,hh,cond_true];rfl) (2*kk) hc0,r.mem.cell (r:=.cut) (b:=A.fP) (cs:=A.dV) (by simp only[bq,hh,cond_true];rfl) (2*kk+1) hc1⟩
 clear hR hv hp hL hck hct hc0 hc1 hh he hkl hcut hln uB xP hnr hn1;go_enter Tryz.func73,Tryz.ntmps73;go_wp2_with fail
 go_loopw [19] (fun i wr=>∃ k:Nat,k<=8∧i=I k∧Below w.heap.size w wr∧∀ q,q<k->behind seq (D.calls.getD q none)=true) (fun i _=>8 - (intOf i).toNat)
 case atStart=>exact⟨0,by omega,rfl,Below.refl _ _,fun q h=>absurd h (by omega)⟩
 case round=>
  obtain⟨k,Z,rfl,hb,hbe⟩:=hrel;have HB:=zH (zA hb hbe);clear hb hbe
  by_cases hlt:k<8
  . have k1:((k:Int)<8)=True:=by simp;omega
    have k2:decide ((k:Int)<8)=true:=by simp;omega
    have k3:IntKind.i64.wrap ((k:Int)+1)=(k:Int)+1:=by rw[jG];omega
    have hix:=Ed vc k hlt;obtain⟨x3,x27,Yw,Yx⟩:=qf.out _ HB.out.1
    rcases ZH.out k hlt _ HB.out.1 with ⟨e1,e2⟩|⟨b,cq,e1,e2,e3⟩
    . rw[e1] at hix
      have HK:=zH (zA hlt e2);clear hlt Z e2;go_wp2_with (refine bX rfl (.tmp 18) (.tmp 19) 106 rfl (hix _) ?_)
      go_quiet (fail)
      go_wp2_with fail;exact⟨⟨k+1,by have:=HK.out.1;omega,rfl,HB.out.1.trans ⟨rfl,rfl,rfl,zr _,fun _ _=>rfl⟩,fun q hq=>by by_cases h:q=k;rw[h];exact HK.out.2;exact HB.out.2 q (by omega)⟩,by have:=HK.out.1;simp[intOf];omega⟩
    . rw[e1] at hix
      have HK:=zH (zA hlt e3);clear hlt Z e3
      by_cases hq:seq<cq
      . have q1:((cq:Int)<=(seq:Int))=False:=by simp;omega
        have q2:decide ((cq:Int)<=(seq:Int))=false:=by simp;omega
        have q3:(cq<=seq)=False:=by simp;omega
        have q4:decide (cq<=seq)=false:=by simp;omega
        go_wp2_with (refine bX rfl (.tmp 18) (.tmp 19) 106 rfl (hix _) ?_)
        go_quiet (fail)
        go_wp2_with fail;exact⟨⟨k+1,by have:=HK.out.1;omega,rfl,HB.out.1.trans ⟨rfl,rfl,rfl,zr _,fun _ _=>rfl⟩,fun q hqk=>by by_cases h:q=k;rw[h,HK.out.2];simpa using hq;exact HB.out.2 q (by omega)⟩,by have:=HK.out.1;simp[intOf];omega⟩
      . have q1:((cq:Int)<=(seq:Int))=True:=by simp;omega
        have q2:decide ((cq:Int)<=(seq:Int))=true:=by simp;omega
        have q3:(cq<=seq)=True:=by simp;omega
        have q4:decide (cq<=seq)=true:=by simp;omega
        go_wp2_with (refine bX rfl (.tmp 18) (.tmp 19) 106 rfl (hix _) ?_)
        go_quiet (fail)
        go_wp2_with fail;go_ret;exact .inl ⟨k,HK.out.1,by rw[HK.out.2];simpa using hq,rfl,HB.out.1.trans ⟨rfl,rfl,rfl,zr _,fun _ _=>rfl⟩⟩
  . obtain rfl:k=8:=by omega
    have k1:(((8:Nat):Int)<8)=False:=by simp
    have k2:decide (((8:Nat):Int)<8)=false:=by simp
    obtain⟨x3,x27,Yw,Yx⟩:=qf.out _ HB.out.1;have hRr:=HX.out.1.rep.below HB.out.1;have ZI:=zH (C9 hRr.drew G HX.out.2.1 HX.out.2.2.1);have ZJ:=zH ((HB.out.1).drew);clear hRr Z;go_wp2_with fail
    go_region_held3 (fun E=>zS E A.H 3 A.bp 0∧E.cell? (J A.H 27)=some (.slice (some ⟨A.fP,2*kk,none⟩) nr c)∧E.cell? ⟨A.fP,2*kk,none⟩=zv G∧E.cell? ⟨A.fP,2*kk+1,none⟩=zt seq)
     (first|exact⟨x3,x27,Yw,Yx⟩|assumption|go_keep|exact Yv.out _ _ (by assumption) (by assumption))
     (first|(go_at_call 100;refine ZI.out.mono ?_;rintro e w2 ⟨⟨zz,rfl⟩,A',p0,p1,p2⟩))
    obtain⟨_,ZK,_⟩:=Yv.out _ _ p0 p1;have z27:=p1.iC 27;have b1:A'.H=A.H:=by obtain⟨L,v,rfl⟩:=p0;rfl
    have hvs:A'.dX=A.dX:=by obtain⟨L,v,rfl⟩:=p0;rfl
    have hso:kK A A':=by obtain⟨L,v,rfl⟩:=p0;exact⟨⟨_,_,_,_,_,_,_,_,rfl⟩,rfl⟩
    rw[b1] at z27;have hck:iW {A' with iV:=.slice (if c=1 then some ⟨A.fP,2*kk,none⟩ else some ⟨A.fP,2*kk+2,none⟩) (nr - 1) (c - 1)} rest:=by
     rw[show nr - 1=rest.length by have:=UO.out.1;omega];obtain⟨L,v,rfl⟩:=p0;exact HX.out.2.2.2.2
    have h1n:((1:Int)<=(nr:Int))=True:=by have:=UO.out;simp;omega
    have ZL:(1<=nr)=True:=by have:=UO.out;simp;omega
    have h1c:((1:Int)<=(c:Int))=True:=by have:=UO.out;simp;omega
    have hc2:¬ ((c:Int)<1):=by have:=UO.out;omega
    have HF:=zH (zA p1 (zA ((Grow.below (L:=A.L) ZJ.out).trans p2) (zA b1 (zA hso (zA hvs hck)))));clear p0 p1 p2 b1 hso hvs hck;go_wp2_with fail
    all_goals
     go_ret;obtain⟨p1,p2,b1,hso,hvs,hck⟩:=HF.out;rw[<-b1];refine .inr ⟨HB.out.2,rfl,_,?_,?_,(p1.qj _ rest (D.give G).cuts).1,p2.trans (p1.qj _ rest (D.give G).cuts).2,?_⟩;rotate_left;exact hvs;rotate_left;exact hso.trans ⟨⟨_,_,_,_,_,_,_,_,rfl⟩,rfl⟩
     by_cases hq:c=1
     . rw[aV hq] at hck
       have e0:c - 1=0:=by omega
       rw[e0] at hck
       first|exact hck|exact absurd hq (by assumption)
     . rw[aR hq] at hck
       first|exact hck|exact absurd (by assumption) hq
def UQ (D:St):S->Bool
 |.now=>decide (D.word 0<18446744073709551616)
 |.live s=>decide (s<8)
 |.head F=>decide (F<=63)
 |.visit _ _ G=>vl D G&&small D (af G 0)
 |.maker _ _ _ id=>decide (id<=2000)&&small D (D.place id)
 |.dD _ _ G _=>vl D G&&small D (af G 1)
 |.on F G=>decide (F<=63)&&vl D G
 |.unlink _ _ G=>vl D G
 |.cut F ak G _=>decide (F<=63)&&((decide (ak=0)||vl D ak)&&decide (D.cut.length<1000000))
theorem jm.enter {e:Nat} {L:dE} {w:World} {v:Value}:∀ {k:S},jm e L w v (some k)->∃ f b c,v=.func (.func f) b c∧∀ args w,(callFunc f args).run Tryz.prog w=.ok (.enter f args) w
 |.now,h=>⟨_,_,_,h,fun _ _=>by kernel_rfl⟩
 |.live _,h=>let ⟨_,_,e,_⟩:=h;⟨_,_,_,e,fun _ _=>by kernel_rfl⟩
 |.head _,h=>let ⟨_,_,e,_⟩:=h;⟨_,_,_,e,fun _ _=>by kernel_rfl⟩
 |.visit _ _ _,h=>let ⟨_,_,_,_,e,_⟩:=h;⟨_,_,_,e,fun _ _=>by kernel_rfl⟩
 |.maker _ _ _ _,h=>let ⟨_,_,_,_,_,e,_⟩:=h;⟨_,_,_,e,fun _ _=>by kernel_rfl⟩
 |.dD _ _ _ _,h=>let ⟨_,_,_,_,_,e,_⟩:=h;⟨_,_,_,e,fun _ _=>by kernel_rfl⟩
 |.on _ _,h=>let ⟨_,_,_,e,_⟩:=h;⟨_,_,_,e,fun _ _=>by kernel_rfl⟩
 |.unlink _ _ _,h=>let ⟨_,_,_,_,e,_⟩:=h;⟨_,_,_,e,fun _ _=>by kernel_rfl⟩
 |.cut _ _ _ _,h=>let ⟨_,_,_,_,_,e,_⟩:=h;⟨_,_,_,e,fun _ _=>by kernel_rfl⟩
theorem UR (hR:aC A D w) (hck:iW A D.cut) (aL:D.count<3000000000000000000):∀ (k:S) (_:UQ D k=true) (f:FuncId) (b c:Array Value),jm A.H A.L w (.func (.func f) b c) (some k)->zk f (b++c) w (tN A D w (D.aG k))
 |.now,h,f,b,c,hs=>by
  obtain⟨rfl,rfl,rfl⟩:=bI hs;exact L9 hR (by omega) (of_decide_eq_true h)
 |.live s,h,f,b,c,hs=>by
  obtain⟨b0,b1,e,k0,k1⟩:=hs;obtain⟨rfl,rfl,rfl⟩:=bI e;exact RN hR s (of_decide_eq_true h) (by omega) b0 b1 k0 k1
 |.head F,h,f,b,c,hs=>by
  obtain⟨b0,b1,e,k0,k1⟩:=hs;obtain⟨rfl,rfl,rfl⟩:=bI e;exact Ra hR F (of_decide_eq_true h) (by omega) b0 b1 k0 k1
 |.visit F ak G,h,f,b,c,hs=>by
  obtain⟨b0,b1,b2,b3,e,k0,k1,k2,k3⟩:=hs;obtain⟨rfl,rfl,rfl⟩:=bI e;obtain⟨h1,h2⟩:=uU h
  by_cases hx:(rd (D.word (af G 0))).1=2
  . exact Gq hR F ak G (fM h1) (eX h2) (by simp[hx]) (by omega) b0 b1 b2 b3 k0 k1 k2 k3
  . exact Gr hR F ak G (fM h1) (eX h2) (by simp[hx]) (by omega) b0 b1 b2 b3 k0 k1 k2 k3
 |.maker F ak G id,h,f,b,c,hs=>by
  obtain⟨b0,b1,b2,b3,b4,e,k0,k1,k2,k3,k4⟩:=hs;obtain⟨rfl,rfl,rfl⟩:=bI e;obtain⟨h1,h2⟩:=uU h;have hid:=of_decide_eq_true h1
  by_cases hx:bz (D.word (D.place id))=4
  . exact Gs hR F ak G id (by omega) (l9 hR hid) (eX h2) (by simp[hx]) (by omega) b0 b1 b2 b3 b4 k0 k1 k2 k3 k4
  . exact Gt hR F ak G id (by omega) (l9 hR hid) (eX h2) (by simp[hx]) (by omega) b0 b1 b2 b3 b4 k0 k1 k2 k3 k4
 |.dD F ak G bb,h,f,b,c,hs=>by
  obtain⟨b0,b1,b2,b3,b4,e,k0,k1,k2,k3,k4⟩:=hs;obtain⟨rfl,rfl,rfl⟩:=bI e;obtain⟨h1,h2⟩:=uU h
  cases hx:dD (D.word (af G 1)) D.low with
  |true=>exact Eb hR F ak G bb (fM h1) (eX h2) hx (by omega) b0 b1 b2 b3 b4 k0 k1 k2 k3 k4
  |false=>exact Ec hR F ak G bb (fM h1) (eX h2) hx (by omega) b0 b1 b2 b3 b4 k0 k1 k2 k3 k4
 |.on F G,h,f,b,c,hs=>by
  obtain⟨b0,b1,b2,e,k0,k1,k2⟩:=hs;obtain⟨rfl,rfl,rfl⟩:=bI e;obtain⟨h1,h2⟩:=uU h;exact Wl hR F G (of_decide_eq_true h1) (fM h2) (by omega) b0 b1 b2 k0 k1 k2
 |.unlink F ak G,h,f,b,c,hs=>by
  obtain⟨b0,b1,b2,b3,e,k0,k1,k2,k3⟩:=hs;obtain⟨rfl,rfl,rfl⟩:=bI e;exact Li hR F ak G (fM h) (by omega) b0 b1 b2 b3 k0 k1 k2 k3
 |.cut F ak G nx,h,f,b,c,hs=>by
  obtain⟨b0,b1,b2,b3,b4,e,k0,k1,k2,k3,k4⟩:=hs;obtain⟨rfl,rfl,rfl⟩:=bI e;obtain⟨h1,h⟩:=uU h;obtain⟨h2,h3⟩:=uU h;have hln:=of_decide_eq_true h3;rw[qd,zd] at h2
  by_cases ha:ak=0
  . by_cases hw:D.word (9+F)=G
    . exact Ea hR F ak G nx (of_decide_eq_true h1) (.inl ⟨ha,hw⟩) hck hln (by omega) b0 b1 b2 b3 b4 k0 k1 k2 k3 k4
    . exact Gl hR F ak G nx (of_decide_eq_true h1) ha hw (by omega) b0 b1 b2 b3 b4 k0 k1 k2 k3 k4
  . exact Ea hR F ak G nx (of_decide_eq_true h1) (.inr (fM (h2.resolve_left ha))) hck hln (by omega) b0 b1 b2 b3 b4 k0 k1 k2 k3 k4
theorem nH (D:St) (k:S):(D.aG k).1.calls=D.calls∧(D.aG k).1.count=D.count+1∧(D.aG k).1.aI=D.aI:=by
 cases k<;>simp only[St.aG]<;>(repeat' split)<;>exact⟨rfl,rfl,rfl⟩
theorem Live.Ma {A A':au} {D bB:St} {w E:World} (hL:Live A D w) (r:aC A' bB E) (g:Grow A.L w A'.L E) (s:kK A A') (hc:bB.calls=D.calls) (sx:vD A' bB E):Live A' bB E:=by
 obtain⟨⟨L,v,c,f,m,hc',gc,cs,rfl⟩,hm⟩:=s;have ek:∀ s,kp {A with L:=L,dX:=v,iV:=c,eZ:=f,mp:=m,hcut:=hc',fP:=gc,dV:=cs} bB s=kp A D s:=fun s=>by unfold kp St.c;rw[hc]
 refine⟨r,hm.trans hL.mp,hL.mt,fun s h c hcs=>?_,fun s h hcs=>hL.idle s h (by rw[<-hc];exact hcs),sx⟩;obtain⟨e1,k,e2,e3⟩:=hL.call s h c (by rw[<-hc];exact hcs);exact⟨e1,k,e2,by rw[ek];exact e3.grow g⟩
def xQ (A:au) (w:World) (bB:St) (x:Bool):Ending->World->Prop:=fun e E=>e=.returned (.bool x)∧∃ A',kK A A'∧Live A' bB E∧Grow A.L w A'.L E
def xR (D:St):Prop:=∀ A w,Live A D w->zk 73 #[R A.H 0] w fun e E=>e=.returned (.bool false)∧Below w.heap.size w E
theorem Xa (f:FuncId) (b c:Array Value) (w:World):(binOp .eql 54 (.func (.func f) b c) .nilFunc).run Tryz.prog w=.ok (.bool false) w:=by rfl
theorem Xb (w:World):(binOp .eql 54 .nilFunc .nilFunc).run Tryz.prog w=.ok (.bool true) w:=by rfl
theorem Gu (hL:Live A D w) (k:S) (hsw:D.sw=some k) (hgn:xR D) (aL:D.count<3000000000000000000) (hlk:D.aI<1000000000000000000) (hok:UQ D k=true):
 zk 35 #[R A.H 0] w (xQ A w ({(D.aG k).1 with aI:=D.aI+1}) (D.aG k).2):=by
 obtain⟨r2,g2,f0,f1⟩:=jy hL.rep #[R A.H 0] 32 #[I (D.count:Int)] 3;have hcn:=zH ((iX (hL.rep.alloc (.cells #[R A.H 0] 32)) (by omega)).mono (fun e w9 h=>(⟨h.1,h.2.symm⟩:e=_∧w9=w.alloc (.cells #[R A.H 0] 32))));have e2:(w.alloc (.cells #[R A.H 0] 32)).cell? (J A.H 2)=zs A.ba 0:=(hL.rep.alloc _).df 2 rfl;have y0:=f0.cell 0 (v:=R A.H 0) rfl;have hS:=hL.sx.sw;have hC:rV A D w:=hL.sx.cu;have HG:=zH (hgn A _ (hL.world r2 g2));rw[hsw] at hS;obtain⟨fv,fb,fc,hv,he⟩:=hS.enter;obtain⟨hk1,hk2,hk3⟩:=nH D k
 have H3 : Hid (∀ w3, Below ((w.alloc (.cells #[R A.H 0] 32)).alloc (.cells #[I (D.count : Int)] 3)).heap.size ((w.alloc (.cells #[R A.H 0] 32)).alloc (.cells #[I (D.count : Int)] 3)) w3 ->
     zS w3 w.heap.size 0 A.H 0∧w3.cell? (J A.H 25)=some (.func (.func fv) fb fc)∧zk fv (fb++fc) w3 (fun e w4=>e=.returned (.bool (D.aG k).2)∧∃ A',kK A A'∧aC A' (D.aG k).1 w4∧Grow A.L w A'.L w4∧jm A'.H A'.L w4 (A'.sv (D.aG k).1.sw) (D.aG k).1.sw∧rV A' (D.aG k).1 w4∧aN A'.L w4 w.heap.size (R A'.H 0)∧aN A'.L w4 (w.heap.size+1) (I (D.count:Int)))):=by
  intro w3 hb;have gb:=Grow.below (L:=A.L) hb;have r3:=r2.below hb;have NN:=r3.df 25 (v:=A.sv D.sw) rfl;rw[hsw,hv] at NN;refine⟨(f0.grow gb).cell 0 rfl,NN,?_⟩;have Yy:=hS.grow (g2.trans gb);rw[hv] at Yy;refine (UR r3 hC aL k hok fv fb fc Yy).mono ?_;rintro e w4 ⟨rfl,A',s1,s2,s3,s4,s5⟩;have hbe:A'.H=A.H:=by obtain⟨⟨L,v,c,f,m,hc',gc,cs,rfl⟩,_⟩:=s1;rfl
  exact⟨rfl,A',s1,s2,(g2.trans gb).trans s3,s4,s5 (hC.keep rfl rfl (g2.trans gb)),by rw[hbe];exact ((f0.grow gb).grow s3).box,((f1.grow gb).grow s3).box⟩
 have Ai:=zH (zA hL (zA aL (zA hlk (zA hk1 (zA hk2 hk3)))));clear r2 g2 f0 f1 hL hS hC hgn aL hlk hok hv hsw hk1 hk2 hk3;generalize D.aG k=rr at*;have hne:=Xa fv fb fc
 go_enter_defers Tryz.func35,Tryz.ntmps35
 go_wp2_with (first|(go_at_call 71;refine hcn.out.mono ?_;rintro e Y ⟨rfl,rfl⟩)|(go_at_call 73;refine HG.out.mono ?_;rintro e w3 ⟨rfl,hb⟩;obtain⟨x0,x25,hc⟩:=H3.out w3 hb;have HC:=zH hc;clear hc hb));refine HC.out.mono ?_;rintro e w4 ⟨rfl,A',s1,s2,s3,s4,s5,B0,B1⟩;have HD:=zH (pI s2 D.count 1 Ai.out.2.2.2.2.1 (by rw[Ai.out.2.2.2.2.1];have:=Ai.out.2.1;omega) (by rw[Ai.out.2.2.2.2.2];exact Ai.out.2.2.1) (by omega) _ _ B0 B1);have HS:=zH (zA s1 (zA s2 (zA s3 (zA s4 s5))));clear s1 s2 s3 s4 s5 B0 B1 HC;go_wp2;refine leaves_cons (f:=72) (args:=#[R w.heap.size 0,.pointer (some ⟨w.heap.size+1,0,none⟩)]) (by simp) (by simp[go_sem]) ?_;refine HD.out.mono ?_;rintro e u w5 ⟨rfl,rfl,r5,g5⟩;simp[Leaves,settle,results,Tryz.results35];obtain⟨s1,s2,s3,s4,s5⟩:=HS.out;obtain⟨hL,_,_,hk1,hk2,hk3⟩:=Ai.out;rw[hk3] at r5;exact⟨rfl,A',s1,hL.Ma r5 (s3.trans g5) s1 hk1 ⟨s4.grow g5,s5⟩,s3.trans g5⟩
theorem Gv (hL:Live A D w) (hsw:D.sw=none) (hgn:xR D) (aL:D.count<3000000000000000000) (hlk:D.aI<1000000000000000000) (hok:UQ D .now=true):
 zk 35 #[R A.H 0] w (xQ A w ({(D.aG .now).1 with aI:=D.aI+1}) (D.aG .now).2):=by
 obtain⟨r2,g2,f0,f1⟩:=jy hL.rep #[R A.H 0] 32 #[I (D.count:Int)] 3;have hcn:=zH ((iX (hL.rep.alloc (.cells #[R A.H 0] 32)) (by omega)).mono (fun e w9 h=>(⟨h.1,h.2.symm⟩:e=_∧w9=w.alloc (.cells #[R A.H 0] 32))));have e2:(w.alloc (.cells #[R A.H 0] 32)).cell? (J A.H 2)=zs A.ba 0:=(hL.rep.alloc _).df 2 rfl;have y0:=f0.cell 0 (v:=R A.H 0) rfl;have hC:rV A D w:=hL.sx.cu;have HG:=zH (hgn A _ (hL.world r2 g2));have he:∀ args w,(callFunc 74 args).run Tryz.prog w=.ok (.enter 74 args) w:=fun _ _=>by kernel_rfl
 obtain⟨hk1,hk2,hk3⟩:=nH D .now
 have H3 : Hid (∀ w3, Below ((w.alloc (.cells #[R A.H 0] 32)).alloc (.cells #[I (D.count : Int)] 3)).heap.size ((w.alloc (.cells #[R A.H 0] 32)).alloc (.cells #[I (D.count : Int)] 3)) w3 ->
     zS w3 w.heap.size 0 A.H 0∧w3.cell? (J A.H 25)=some .nilFunc∧w3.frozen? (J A.H 25)=false∧(w3.setCell (J A.H 25) (.func (.func 74) #[R A.H 0] #[])).cell? (J w.heap.size 0)=zs A.H 0∧(w3.setCell (J A.H 25) (.func (.func 74) #[R A.H 0] #[])).cell? (J A.H 25)=some (.func (.func 74) #[R A.H 0] #[])∧zk 74 #[R A.H 0] (w3.setCell (J A.H 25) (.func (.func 74) #[R A.H 0] #[])) (fun e w4=>e=.returned (.bool (D.aG .now).2)∧∃ A',kK A A'∧aC A' (D.aG .now).1 w4∧Grow A.L w A'.L w4∧jm A'.H A'.L w4 (A'.sv (D.aG .now).1.sw) (D.aG .now).1.sw∧rV A' (D.aG .now).1 w4∧aN A'.L w4 w.heap.size (R A'.H 0)∧aN A'.L w4 (w.heap.size+1) (I (D.count:Int)))):=by
  intro w3 hb;have gb:=Grow.below (L:=A.L) hb;have r3:=r2.below hb;have NN:=r3.df 25 (v:=A.sv D.sw) rfl;rw[hsw] at NN;have hv:A.sv (none:Option S)=.nilFunc:=rfl;rw[hv] at NN;have z25:=r3.iC 25;obtain⟨r4,g4⟩:=r3.fK (.func (.func 74) #[R A.H 0] #[]) .now;refine⟨(f0.grow gb).cell 0 rfl,NN,z25,((f0.grow gb).grow g4).cell 0 rfl,World.cell?_setCell_same _ _ _ NN,?_⟩;refine (L9 r4 (by show D.count<_;omega) (of_decide_eq_true hok)).mono ?_;rintro e w4 ⟨rfl,A',s1,s2,s3,s4,s5⟩;have hs0:kK A {A with dX:=.func (.func 74) #[R A.H 0] #[]}:=⟨⟨_,_,_,_,_,_,_,_,rfl⟩,rfl⟩
  have hbe:A'.H=A.H:=by obtain⟨⟨L,v,c,f,m,hc',gc,cs,rfl⟩,_⟩:=s1;rfl
  have ZM:rV {A with dX:=.func (.func 74) #[R A.H 0] #[]} ({D with sw:=some .now}:St) (w3.setCell (J A.H 25) (.func (.func 74) #[R A.H 0] #[])):=hC.keep rfl rfl ((g2.trans gb).trans g4);exact⟨rfl,A',hs0.trans s1,s2,((g2.trans gb).trans g4).trans s3,s4,s5 ZM,by rw[hbe];exact (((f0.grow gb).grow g4).grow s3).box,(((f1.grow gb).grow g4).grow s3).box⟩
 have Ai:=zH (zA hL (zA aL (zA hlk (zA hk1 (zA hk2 hk3)))));clear r2 g2 f0 f1 hL hC hgn aL hlk hok hsw hk1 hk2 hk3;generalize D.aG .now=rr at*;have heq:=Xb
 go_enter_defers Tryz.func35,Tryz.ntmps35
 go_wp2_with (first|(go_at_call 71;refine hcn.out.mono ?_;rintro e Y ⟨rfl,rfl⟩)|(go_at_call 73;refine HG.out.mono ?_;rintro e w3 ⟨rfl,hb⟩;obtain⟨x0,x25,z25,q0,q25,hc⟩:=H3.out w3 hb;have HC:=zH hc;clear hc hb));refine HC.out.mono ?_;rintro e w4 ⟨rfl,A',s1,s2,s3,s4,s5,B0,B1⟩;have HD:=zH (pI s2 D.count 1 Ai.out.2.2.2.2.1 (by rw[Ai.out.2.2.2.2.1];have:=Ai.out.2.1;omega) (by rw[Ai.out.2.2.2.2.2];exact Ai.out.2.2.1) (by omega) _ _ B0 B1);have HS:=zH (zA s1 (zA s2 (zA s3 (zA s4 s5))));clear s1 s2 s3 s4 s5 B0 B1 HC;go_wp2;refine leaves_cons (f:=72) (args:=#[R w.heap.size 0,.pointer (some ⟨w.heap.size+1,0,none⟩)]) (by simp) (by simp[go_sem]) ?_;refine HD.out.mono ?_;rintro e u w5 ⟨rfl,rfl,r5,g5⟩;simp[Leaves,settle,results,Tryz.results35];obtain⟨s1,s2,s3,s4,s5⟩:=HS.out;obtain⟨hL,_,_,hk1,hk2,hk3⟩:=Ai.out;rw[hk3] at r5;exact⟨rfl,A',s1,hL.Ma r5 (s3.trans g5) s1 hk1 ⟨s4.grow g5,s5⟩,s3.trans g5⟩
theorem JO (D:St) (G:Nat):(D.give G).calls=D.calls∧(D.give G).count=D.count∧(D.give G).aI=D.aI∧(D.give G).sw=D.sw:=by
 unfold St.give;dsimp only
 split
 . split<;>exact⟨rfl,rfl,rfl,rfl⟩
 . exact⟨rfl,rfl,rfl,rfl⟩
theorem Gw (hL:Live A D w) (G seq:Nat) (rest:List (Nat×Nat)) (hv:VL D G) (hp:iR D) (hcut:D.cut=(G,seq)::rest) (hln:D.cut.length<1000000) (hall:∀ q,q<8->behind seq (D.calls.getD q none)=true) (aL:D.count<3000000000000000000) (hlk:D.aI<1000000000000000000):
 zk 35 #[R A.H 0] w (xQ A w ({D.give G with cut:=rest}) true):=by
 obtain⟨r2,g2,f0,f1⟩:=jy hL.rep #[R A.H 0] 32 #[I (D.count:Int)] 3;have hcn:=zH ((iX (hL.rep.alloc (.cells #[R A.H 0] 32)) (by omega)).mono (fun e w9 h=>(⟨h.1,h.2.symm⟩:e=_∧w9=w.alloc (.cells #[R A.H 0] 32))));have e2:(w.alloc (.cells #[R A.H 0] 32)).cell? (J A.H 2)=zs A.ba 0:=(hL.rep.alloc _).df 2 rfl;have y0:=f0.cell 0 (v:=R A.H 0) rfl;obtain⟨k1,k2,k3,k4⟩:=JO D G;have hS:=hL.sx.sw
 have HG := zH ((Ah (hL.world r2 g2) G seq rest hv hp hcut hln).mono (fun e w3 h => (by
   rcases h with ⟨q,hq,Yz,_⟩|⟨_,h1,A',s1,s0,s2,s3,s5⟩
   . rw[hall q hq] at Yz;cases Yz
   have hbe:A'.H=A.H:=by obtain⟨⟨L,v,c,f,m,hc',gc,cs,rfl⟩,_⟩:=s1;rfl
   refine⟨h1,A',s1,s2,g2.trans s3,?_,s5,by rw[hbe];exact (f0.grow s3).box,(f1.grow s3).box⟩
   have h9:=hS.grow (g2.trans s3)
   have e9:A'.sv D.sw=A.sv D.sw:=by unfold au.sv;rw[s0]
   rw[hbe,e9]
   exact h9:e=.returned (.bool true)∧∃ A',kK A A'∧aC A' {D.give G with cut:=rest} w3∧Grow A.L w A'.L w3∧jm A'.H A'.L w3 (A'.sv D.sw) D.sw∧iW A' rest∧aN A'.L w3 w.heap.size (R A'.H 0)∧aN A'.L w3 (w.heap.size+1) (I (D.count:Int)))))
 have Ai:=zH (zA hL (zA aL (zA hlk (zA k1 (zA k2 (zA k3 k4))))));clear r2 g2 f0 f1 hL hS hcut hln hall aL hlk hv hp k1 k2 k3 k4
 go_enter_defers Tryz.func35,Tryz.ntmps35
 go_wp2_with (first|(go_at_call 71;refine hcn.out.mono ?_;rintro e Y ⟨rfl,rfl⟩)|(go_at_call 73;refine HG.out.mono ?_;rintro e w4 ⟨rfl,A',s1,s2,s3,s4,s5,B0,B1⟩;have HS:=zH (zA s1 (zA s2 (zA s3 (zA s4 s5))));have HD:=zH (pI s2 D.count 0 Ai.out.2.2.2.2.1 (by show (D.give G).count<_;rw[Ai.out.2.2.2.2.1];have:=Ai.out.2.1;omega) (by show (D.give G).aI<_;rw[Ai.out.2.2.2.2.2.1];exact Ai.out.2.2.1) (by omega) _ _ B0 B1);clear s1 s2 s3 s4 s5 B0 B1));refine leaves_cons (f:=72) (args:=#[R w.heap.size 0,.pointer (some ⟨w.heap.size+1,0,none⟩)]) (by simp) (by simp[go_sem]) ?_;refine HD.out.mono ?_;rintro e u w5 ⟨rfl,rfl,r5,g5⟩;simp[Leaves,settle,results,Tryz.results35];obtain⟨s1,s2,s3,s4,s5⟩:=HS.out;obtain⟨hL,_,_,k1,k2,k3,k4⟩:=Ai.out;refine⟨rfl,A',s1,hL.Ma r5 (s3.trans g5) s1 k1 ⟨?_,s5⟩,s3.trans g5⟩;show jm A'.H A'.L w5 (A'.sv (D.give G).sw) (D.give G).sw;rw[k4];exact s4.grow g5
def pK (D:St):Bool:=UQ D (D.sw.getD .now)&&(lh D&&(D.cut.all (fun p=>vl D p.1)&&(decide (D.cut.length<1000000)&&(decide (D.count<3000000000000000000)&&(decide (D.aI<1000000000000000000)&&decide (D.calls.length=8))))))
theorem xS {D:St} {seq:Nat} (h8:D.calls.length=8):(D.calls.all (fun c=>match c with|some c=>seq<c.seq|none=>true))=true↔∀ q,q<8->behind seq (D.calls.getD q none)=true:=by
 rw[List.all_eq_true];refine⟨fun h q hq=>?_,fun h c hc=>?_⟩
 . have hl:q<D.calls.length:=by omega
   have:=h _ (List.getElem_mem hl);rw[mM,zx hl];show behind seq D.calls[q]=true;unfold behind
   cases e:D.calls[q] with
   |none=>rfl
   |some c=>rw[e] at this;simpa using this
 . obtain⟨q,hq,rfl⟩:=List.mem_iff_getElem.1 hc
   have:=h q (by omega);rw[mM,zx hq] at this;change behind seq D.calls[q]=true at this;unfold behind at this
   cases e:D.calls[q] with
   |none=>rfl
   |some c=>rw[e] at this;simpa using this
theorem Gx {D:St} (h:D.cut=[]):xR D:=fun A w hL=>JN hL.rep hL.sx.cu h
theorem Ee {D:St} {G seq:Nat} {rest:List (Nat×Nat)} (hv:VL D G) (hp:lh D=true) (hcut:D.cut=(G,seq)::rest) (hln:D.cut.length<1000000) (h8:D.calls.length=8) (h:(D.calls.all (fun c=>match c with|some c=>seq<c.seq|none=>true))=false):xR D:=fun A w hL=>by
 refine (Ah hL G seq rest hv (jo hL.rep.nt hp) hcut hln).mono (fun e w3 hh=>?_)
 rcases hh with ⟨q,_,_,h1,h2⟩|⟨h1,_⟩
 . exact⟨h1,h2⟩
 . rw[(xS h8).2 h1] at h;cases h
theorem JP (hL:Live A D w) (hok:pK D=true):
 zk 35 #[R A.H 0] w (xQ A w D.cz.1 D.cz.2):=by
 unfold pK at hok;simp only[il,zd,List.all_eq_true] at hok;obtain⟨h1,h2,h3,h4,h5,h6,h8⟩:=hok;have hgo:xR D->zk 35 #[R A.H 0] w (xQ A w (St.cz.go D).1 (St.cz.go D).2):=fun hg=>by
  have e:∀ k:S,(D.aG k).1.aI+((D.aG k).1.count - D.count)=D.aI+1:=fun k=>by
   obtain⟨-,e2,e3⟩:=nH D k;rw[e2,e3];omega
  cases hsw:D.sw with
  |none=>
   rw[hsw] at h1;have:=Gv hL hsw hg h5 h6 h1;unfold St.cz.go;rw[hsw];show Calls _ _ _ w (xQ A w {(D.aG .now).1 with aI:=(D.aG .now).1.aI+((D.aG .now).1.count - D.count)} _);rw[e];exact this
  |some k=>
   rw[hsw] at h1;have:=Gu hL k hsw hg h5 h6 h1;unfold St.cz.go;rw[hsw];show Calls _ _ _ w (xQ A w {(D.aG k).1 with aI:=(D.aG k).1.aI+((D.aG k).1.count - D.count)} _);rw[e];exact this
 unfold St.cz
 split
 . rename_i G seq rest hcut
   have hv:=fM (h3 (G,seq) (by rw[hcut];exact nK))
   split
   . rename_i hall
     exact Gw hL G seq rest hv (jo hL.rep.nt h2) hcut h4 ((xS h8).1 hall) h5 h6
   . rename_i hall
     exact hgo (Ee hv h2 hcut h4 h8 (Bool.eq_false_iff.2 hall))
 . rename_i hcut
   exact hgo (Gx hcut)
end Go.Proofs.YthicolbbmjfkfaaGreat.Em
