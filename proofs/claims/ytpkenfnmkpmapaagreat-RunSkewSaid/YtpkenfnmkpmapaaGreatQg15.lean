import Derived.Test.YtpkenfnmkpmapaaGreatQg11
import Derived.Test.YtpkenfnmkpmapaaGreatQg9
namespace Go.Proofs.YtpkenfnmkpmapaaGreat.Em
open Go.ChangeShapes Go.WideShapes Go.ChangeAt Go.RowKit En
set_option linter.unusedVariables false
set_option linter.unusedSimpArgs false
set_option maxRecDepth 100000
set_option maxHeartbeats 1600000
variable {A:Book} {σ:St} {w:World}
theorem k_drawH (hR:Rep A σ w) (s:Nat) (x now:Nat) (hx:x<18446744073709551616) (hi:lastOf x≤2000) (hcnt:σ.count<4000000000000000000) (b0 b1 b2:Nat)
 (B0:Box A.L w b0 (.pointer (some ⟨A.be,0,none⟩))) (B1:Box A.L w b1 (zu (x:Int))) (B2:TurnBox (kp A σ s) A.L w b2 x now):
 Calls Tryz.prog 115 #[.pointer (some ⟨b0,0,none⟩),.pointer (some ⟨b1,0,none⟩),.pointer (some ⟨b2,0,none⟩)] w (Ran A w s (σ.run s (.drawH x now))):=by
 have c0:=B0.cell;have c1:=B1.cell;have HH:=zH (help_any hR x hx hi hcnt);obtain⟨tv,X2,m0,m1,m2,m3,m4,htv,N0,N1,N2,N3,N4⟩:=B2;have HB:Hid (∀ w1,Grow A.L w A.L w1→w1.cell? ⟨b2,0,none⟩=some tv):=fun w1 g=>(X2.grow g).cell
 have HN:=zH (zA N0 (zA N1 (zA N2 (zA N3 N4))));have hrun:σ.run s (.drawH x now)=(σ.help x,some (.turn x now)):=rfl;rw[hrun];clear hR hx hi hcnt B0 B1 X2 N0 N1 N2 N3 N4 hrun;subst htv;go_enter Tryz.func115,Tryz.ntmps115;go_wp2_with (go_at_call 59;refine HH.out.mono ?_;rintro e w1 ⟨rfl,q1,q2⟩;have d2:=HB.out w1 q2;have HQ:=zH (zA q1 q2);clear q1 q2);go_ret;obtain⟨q1,q2⟩:=HQ.out;obtain⟨N0,N1,N2,N3,N4⟩:=HN.out;exact⟨A,_,rfl,q1,q2,Stay.refl _ _,_,_,_,_,_,rfl,N0.grow q2,N1.grow q2,N2.grow q2,N3.grow q2,N4.grow q2⟩
theorem k_draw_over (hR:Rep A σ w) (s:Nat) (hx:σ.word 0<18446744073709551616) (hcnt:σ.count<4000000000000000000) (b0 b1 b2:Nat)
 (B0:Box A.L w b0 (.pointer (some ⟨A.be,0,none⟩))) (B1:Box A.L w b1 (.pointer (some ⟨A.bt s,0,none⟩))) (B2:Box A.L w b2 (.pointer (some ⟨A.bc s,0,none⟩))) (ho:σ.limit≤timeOf (σ.word 0)):
 Calls Tryz.prog 111 #[.pointer (some ⟨b0,0,none⟩),.pointer (some ⟨b1,0,none⟩),.pointer (some ⟨b2,0,none⟩)] w (Ran A w s (σ.run s .draw)):=by
 have c0:=B0.cell;have e2:=hR.z2;have HL:=zH (load_i hR 0 0 rfl (by rw[hR.nw];omega) hcnt);have HD:=zH (fun w'=>drawn_any (σ.word 0) hx w');have HB:Hid (∀ w1,Rep A σ.tick w1→Grow A.L w A.L w1→∀ W3,(w1.alloc (.cells #[zu (σ.word 0:Int)] 22)).alloc (.cells #[zu (timeOf (σ.word 0):Int)] 22)=W3→∀ n w5,W3.drewN n=w5→Rep A σ.tick w5∧Grow A.L w A.L w5∧Fix A.L w5 w1.heap.size (.cells #[zu (σ.word 0:Int)] 22)∧Fix A.L w5 (w1.heap.size+1) (.cells #[zu (timeOf (σ.word 0):Int)] 22)∧w5.cell? ⟨b0,0,none⟩=some (.pointer (some ⟨A.be,0,none⟩))∧w5.cell? ⟨b1,0,none⟩=some (.pointer (some ⟨A.bt s,0,none⟩))∧w5.cell? ⟨b2,0,none⟩=some (.pointer (some ⟨A.bc s,0,none⟩))∧w5.cell? ⟨A.be,1,none⟩=some (zu (σ.limit:Int))∧W3.cell? ⟨w1.heap.size,0,none⟩=some (zu (σ.word 0:Int))∧W3.cell? ⟨w1.heap.size+1,0,none⟩=some (zu (timeOf (σ.word 0):Int))∧W3.cell? ⟨b0,0,none⟩=some (.pointer (some ⟨A.be,0,none⟩))∧W3.cell? ⟨A.be,1,none⟩=some (zu (σ.limit:Int))):=by
  rintro w1 q1 q2 W3 rfl n w5 rfl;obtain⟨r3,g3,f0,f1⟩:=allocs2 q1 #[zu (σ.word 0:Int)] 22 #[zu (timeOf (σ.word 0):Int)] 22;have gd:=Grow.drewN A.L ((w1.alloc (.cells #[zu (σ.word 0:Int)] 22)).alloc (.cells #[zu (timeOf (σ.word 0):Int)] 22)) n;have gg:=(q2.trans g3).trans gd;exact⟨r3.drewN n,gg,f0.grow gd,f1.grow gd,(B0.grow gg).cell,(B1.grow gg).cell,(B2.grow gg).cell,(r3.drewN n).eng 1 rfl,f0.cell 0 rfl,f1.cell 0 rfl,(B0.grow (q2.trans g3)).cell,r3.eng 1 rfl⟩
 have HX:=zH (zA B0 (zA B1 B2));have hrun:σ.run s .draw=(σ.tick,some (.abort 14 6)):=by simp only[St.run];exact if_pos ho
 rw[hrun];clear hR hx hcnt B0 B1 B2 hrun;generalize σ.word 0=x at*;generalize timeOf x=now at*;generalize lastOf x=last at*;generalize σ.limit=lim at*;have d1:decide ((lim:Int)≤(now:Int))=true:=by simpa using ho
 have d2:((lim:Int)≤(now:Int))=True:=by simpa using ho
 have d3:(lim≤now)=True:=by simpa using ho
 clear ho;go_enter Tryz.func111,Tryz.ntmps111;go_wp2_with (first|(go_at_call 58;refine HL.out.mono ?_;rintro e w1 ⟨rfl,q1,q2⟩;obtain⟨_,_,_,_,_,_,_,_,y1,y2,y3,y4⟩:=HB.out w1 q1 q2 _ rfl 0 _ rfl;have HQ:=zH (zA q1 q2);clear q1 q2)|(go_at_call 54;refine (HD.out _).mono ?_;rintro e w' ⟨rfl,rfl⟩));generalize hw3:(w1.alloc _).alloc _=w3 at*
 go_quiet (fail)
 generalize hw5:w3.drewN _=w5;obtain⟨r5,g5,f0,f1,z0,z1,z2,z3,_⟩:=HB.out w1 HQ.out.1 HQ.out.2 w3 hw3 _ w5 hw5;clear y1 y2 y3 y4 hw3 hw5;have ha:Calls Tryz.prog 91 #[.pointer (some ⟨A.be,0,none⟩),.pointer (some ⟨A.bt s,0,none⟩),.pointer (some ⟨A.bc s,0,none⟩),zi 14,zi 6] w5 (Tells A w5 s (σ.tick,.abort 14 6)):=abort_any r5 s 14 6;have HA:=zH (zA ha g5);clear r5 g5 f0 f1 ha;go_wp2_with (go_at_call 91;refine HA.out.1.mono ?_;rintro e w2 ⟨A2,v,rfl,p1,p2,p3,p4⟩);go_ret;exact⟨A2,v,rfl,p1,HA.out.2.trans p2,p3,p4⟩
theorem k_draw_turn (hR:Rep A σ w) (s:Nat) (hx:σ.word 0<18446744073709551616) (hcnt:σ.count<4000000000000000000) (b0 b1 b2:Nat)
 (B0:Box A.L w b0 (.pointer (some ⟨A.be,0,none⟩))) (B1:Box A.L w b1 (.pointer (some ⟨A.bt s,0,none⟩))) (B2:Box A.L w b2 (.pointer (some ⟨A.bc s,0,none⟩))) (ho:¬ σ.limit≤timeOf (σ.word 0)) (hl:lastOf (σ.word 0)=0):
 Calls Tryz.prog 111 #[.pointer (some ⟨b0,0,none⟩),.pointer (some ⟨b1,0,none⟩),.pointer (some ⟨b2,0,none⟩)] w (Ran A w s (σ.run s .draw)):=by
 have c0:=B0.cell;have e2:=hR.z2;have HL:=zH (load_i hR 0 0 rfl (by rw[hR.nw];omega) hcnt);have HD:=zH (fun w'=>drawn_any (σ.word 0) hx w');have HB:Hid (∀ w1,Rep A σ.tick w1→Grow A.L w A.L w1→∀ W3,(w1.alloc (.cells #[zu (σ.word 0:Int)] 22)).alloc (.cells #[zu (timeOf (σ.word 0):Int)] 22)=W3→∀ n w5,W3.drewN n=w5→Rep A σ.tick w5∧Grow A.L w A.L w5∧Fix A.L w5 w1.heap.size (.cells #[zu (σ.word 0:Int)] 22)∧Fix A.L w5 (w1.heap.size+1) (.cells #[zu (timeOf (σ.word 0):Int)] 22)∧w5.cell? ⟨b0,0,none⟩=some (.pointer (some ⟨A.be,0,none⟩))∧w5.cell? ⟨b1,0,none⟩=some (.pointer (some ⟨A.bt s,0,none⟩))∧w5.cell? ⟨b2,0,none⟩=some (.pointer (some ⟨A.bc s,0,none⟩))∧w5.cell? ⟨A.be,1,none⟩=some (zu (σ.limit:Int))∧W3.cell? ⟨w1.heap.size,0,none⟩=some (zu (σ.word 0:Int))∧W3.cell? ⟨w1.heap.size+1,0,none⟩=some (zu (timeOf (σ.word 0):Int))∧W3.cell? ⟨b0,0,none⟩=some (.pointer (some ⟨A.be,0,none⟩))∧W3.cell? ⟨A.be,1,none⟩=some (zu (σ.limit:Int))):=by
  rintro w1 q1 q2 W3 rfl n w5 rfl;obtain⟨r3,g3,f0,f1⟩:=allocs2 q1 #[zu (σ.word 0:Int)] 22 #[zu (timeOf (σ.word 0):Int)] 22;have gd:=Grow.drewN A.L ((w1.alloc (.cells #[zu (σ.word 0:Int)] 22)).alloc (.cells #[zu (timeOf (σ.word 0):Int)] 22)) n;have gg:=(q2.trans g3).trans gd;exact⟨r3.drewN n,gg,f0.grow gd,f1.grow gd,(B0.grow gg).cell,(B1.grow gg).cell,(B2.grow gg).cell,(r3.drewN n).eng 1 rfl,f0.cell 0 rfl,f1.cell 0 rfl,(B0.grow (q2.trans g3)).cell,r3.eng 1 rfl⟩
 have HX:=zH (zA B0 (zA B1 B2));have hrun:σ.run s .draw=(σ.tick,some (.turn (σ.word 0) (timeOf (σ.word 0)))):=by simp only[St.run];rw[if_neg (show ¬ σ.tick.limit≤_ from ho),if_pos hl]
 rw[hrun];clear hR hx hcnt B0 B1 B2 hrun;generalize σ.word 0=x at*;generalize timeOf x=now at*;generalize lastOf x=last at*;generalize σ.limit=lim at*;have d1:decide ((lim:Int)≤(now:Int))=false:=by simpa using ho
 have d2:((lim:Int)≤(now:Int))=False:=by simpa using ho
 have d3:(lim≤now)=False:=by simpa using ho
 have l1:((last:Int)==0)=true:=by simpa using hl
 have l2:((last:Int)=0)=True:=by simpa using hl
 clear ho hl;go_enter Tryz.func111,Tryz.ntmps111;go_wp2_with (first|(go_at_call 58;refine HL.out.mono ?_;rintro e w1 ⟨rfl,q1,q2⟩;obtain⟨_,_,_,_,_,_,_,_,y1,y2,y3,y4⟩:=HB.out w1 q1 q2 _ rfl 0 _ rfl;have HQ:=zH (zA q1 q2);clear q1 q2)|(go_at_call 54;refine (HD.out _).mono ?_;rintro e w' ⟨rfl,rfl⟩));generalize hw3:(w1.alloc _).alloc _=w3 at*
 go_quiet (fail)
 generalize hw5:w3.drewN _=w5;obtain⟨r5,g5,f0,f1,z0,z1,z2,z3,_⟩:=HB.out w1 HQ.out.1 HQ.out.2 w3 hw3 _ w5 hw5;clear y1 y2 y3 y4 hw3 hw5;obtain⟨r6,g6,f2⟩:=allocs1 r5 #[.func (.func 112) #[] #[.pointer (some ⟨b0,0,none⟩),.pointer (some ⟨w1.heap.size,0,none⟩),.pointer (some ⟨w1.heap.size+1,0,none⟩),.pointer (some ⟨b1,0,none⟩),.pointer (some ⟨b2,0,none⟩)]] 121;have u7:=f2.cell 0 (v:=.func (.func 112) #[] #[.pointer (some ⟨b0,0,none⟩),.pointer (some ⟨w1.heap.size,0,none⟩),.pointer (some ⟨w1.heap.size+1,0,none⟩),.pointer (some ⟨b1,0,none⟩),.pointer (some ⟨b2,0,none⟩)]) rfl;have HZ:=zH (zA r6 (zA (g5.trans g6) (zA (f0.grow g6) (zA (f1.grow g6) f2))));clear r5 g5 f0 f1 r6 g6 f2;go_wp2_with fail;go_ret;obtain⟨r6,g6,f0,f1,f2⟩:=HZ.out;obtain⟨B0,B1,B2⟩:=HX.out;exact⟨A,_,rfl,r6,g6,Stay.refl _ _,_,_,_,_,_,rfl,B0.grow g6,f0.box,f1.box,B1.grow g6,B2.grow g6⟩
theorem k_draw_help (hR:Rep A σ w) (s:Nat) (hx:σ.word 0<18446744073709551616) (hcnt:σ.count<4000000000000000000) (b0 b1 b2:Nat)
 (B0:Box A.L w b0 (.pointer (some ⟨A.be,0,none⟩))) (B1:Box A.L w b1 (.pointer (some ⟨A.bt s,0,none⟩))) (B2:Box A.L w b2 (.pointer (some ⟨A.bc s,0,none⟩))) (ho:¬ σ.limit≤timeOf (σ.word 0)) (hl:lastOf (σ.word 0)≠0):
 Calls Tryz.prog 111 #[.pointer (some ⟨b0,0,none⟩),.pointer (some ⟨b1,0,none⟩),.pointer (some ⟨b2,0,none⟩)] w (Ran A w s (σ.run s .draw)):=by
 have c0:=B0.cell;have e2:=hR.z2;have HL:=zH (load_i hR 0 0 rfl (by rw[hR.nw];omega) hcnt);have HD:=zH (fun w'=>drawn_any (σ.word 0) hx w');have HB:Hid (∀ w1,Rep A σ.tick w1→Grow A.L w A.L w1→∀ W3,(w1.alloc (.cells #[zu (σ.word 0:Int)] 22)).alloc (.cells #[zu (timeOf (σ.word 0):Int)] 22)=W3→∀ n w5,W3.drewN n=w5→Rep A σ.tick w5∧Grow A.L w A.L w5∧Fix A.L w5 w1.heap.size (.cells #[zu (σ.word 0:Int)] 22)∧Fix A.L w5 (w1.heap.size+1) (.cells #[zu (timeOf (σ.word 0):Int)] 22)∧w5.cell? ⟨b0,0,none⟩=some (.pointer (some ⟨A.be,0,none⟩))∧w5.cell? ⟨b1,0,none⟩=some (.pointer (some ⟨A.bt s,0,none⟩))∧w5.cell? ⟨b2,0,none⟩=some (.pointer (some ⟨A.bc s,0,none⟩))∧w5.cell? ⟨A.be,1,none⟩=some (zu (σ.limit:Int))∧W3.cell? ⟨w1.heap.size,0,none⟩=some (zu (σ.word 0:Int))∧W3.cell? ⟨w1.heap.size+1,0,none⟩=some (zu (timeOf (σ.word 0):Int))∧W3.cell? ⟨b0,0,none⟩=some (.pointer (some ⟨A.be,0,none⟩))∧W3.cell? ⟨A.be,1,none⟩=some (zu (σ.limit:Int))):=by
  rintro w1 q1 q2 W3 rfl n w5 rfl;obtain⟨r3,g3,f0,f1⟩:=allocs2 q1 #[zu (σ.word 0:Int)] 22 #[zu (timeOf (σ.word 0):Int)] 22;have gd:=Grow.drewN A.L ((w1.alloc (.cells #[zu (σ.word 0:Int)] 22)).alloc (.cells #[zu (timeOf (σ.word 0):Int)] 22)) n;have gg:=(q2.trans g3).trans gd;exact⟨r3.drewN n,gg,f0.grow gd,f1.grow gd,(B0.grow gg).cell,(B1.grow gg).cell,(B2.grow gg).cell,(r3.drewN n).eng 1 rfl,f0.cell 0 rfl,f1.cell 0 rfl,(B0.grow (q2.trans g3)).cell,r3.eng 1 rfl⟩
 have HX:=zH (zA B0 (zA B1 B2));have hrun:σ.run s .draw=(σ.tick,some (.drawH (σ.word 0) (timeOf (σ.word 0)))):=by simp only[St.run];rw[if_neg (show ¬ σ.tick.limit≤_ from ho),if_neg hl]
 rw[hrun];clear hR hx hcnt B0 B1 B2 hrun;generalize σ.word 0=x at*;generalize timeOf x=now at*;generalize lastOf x=last at*;generalize σ.limit=lim at*;have d1:decide ((lim:Int)≤(now:Int))=false:=by simpa using ho
 have d2:((lim:Int)≤(now:Int))=False:=by simpa using ho
 have d3:(lim≤now)=False:=by simpa using ho
 have l1:((last:Int)==0)=false:=by simpa using hl
 have l2:((last:Int)=0)=False:=by simpa using hl
 clear ho hl;go_enter Tryz.func111,Tryz.ntmps111;go_wp2_with (first|(go_at_call 58;refine HL.out.mono ?_;rintro e w1 ⟨rfl,q1,q2⟩;obtain⟨_,_,_,_,_,_,_,_,y1,y2,y3,y4⟩:=HB.out w1 q1 q2 _ rfl 0 _ rfl;have HQ:=zH (zA q1 q2);clear q1 q2)|(go_at_call 54;refine (HD.out _).mono ?_;rintro e w' ⟨rfl,rfl⟩));generalize hw3:(w1.alloc _).alloc _=w3 at*
 go_quiet (fail)
 generalize hw5:w3.drewN _=w5;obtain⟨r5,g5,f0,f1,z0,z1,z2,z3,_⟩:=HB.out w1 HQ.out.1 HQ.out.2 w3 hw3 _ w5 hw5;clear y1 y2 y3 y4 hw3 hw5;obtain⟨r6,g6,f2⟩:=allocs1 r5 #[.func (.func 112) #[] #[.pointer (some ⟨b0,0,none⟩),.pointer (some ⟨w1.heap.size,0,none⟩),.pointer (some ⟨w1.heap.size+1,0,none⟩),.pointer (some ⟨b1,0,none⟩),.pointer (some ⟨b2,0,none⟩)]] 121;have u7:=f2.cell 0 (v:=.func (.func 112) #[] #[.pointer (some ⟨b0,0,none⟩),.pointer (some ⟨w1.heap.size,0,none⟩),.pointer (some ⟨w1.heap.size+1,0,none⟩),.pointer (some ⟨b1,0,none⟩),.pointer (some ⟨b2,0,none⟩)]) rfl;have HZ:=zH (zA r6 (zA (g5.trans g6) (zA (f0.grow g6) (zA (f1.grow g6) f2))));clear r5 g5 f0 f1 r6 g6 f2;go_wp2_with fail;go_ret;obtain⟨r6,g6,f0,f1,f2⟩:=HZ.out;obtain⟨B0,B1,B2⟩:=HX.out;exact⟨A,_,rfl,r6,g6,Stay.refl _ _,_,_,_,rfl,B0.grow g6,f0.box,_,f2.box,_,_,_,_,_,rfl,B0.grow g6,f0.box,f1.box,B1.grow g6,B2.grow g6⟩
theorem k_draw (hR:Rep A σ w) (s:Nat) (hx:σ.word 0<18446744073709551616) (hcnt:σ.count<4000000000000000000) (b0 b1 b2:Nat)
 (B0:Box A.L w b0 (.pointer (some ⟨A.be,0,none⟩))) (B1:Box A.L w b1 (.pointer (some ⟨A.bt s,0,none⟩))) (B2:Box A.L w b2 (.pointer (some ⟨A.bc s,0,none⟩))):
 Calls Tryz.prog 111 #[.pointer (some ⟨b0,0,none⟩),.pointer (some ⟨b1,0,none⟩),.pointer (some ⟨b2,0,none⟩)] w (Ran A w s (σ.run s .draw)):=by
 by_cases ho:σ.limit≤timeOf (σ.word 0)
 · exact k_draw_over hR s hx hcnt b0 b1 b2 B0 B1 B2 ho
 · by_cases hl:lastOf (σ.word 0)=0
   · exact k_draw_turn hR s hx hcnt b0 b1 b2 B0 B1 B2 ho hl
   · exact k_draw_help hR s hx hcnt b0 b1 b2 B0 B1 B2 ho hl
theorem k_turn_miss (hR:Rep A σ w) (s:Nat) (t:Txn) (ht:σ.txns.getD s none=some t) (x now:Nat) (hn:now<281474976710655) (hid:t.id<65536) (htl:σ.tale.length<1000000) (hcnt:σ.count<4000000000000000000) (b0 b1 b2 b3 b4:Nat)
 (B0:Box A.L w b0 (.pointer (some ⟨A.be,0,none⟩))) (B1:Box A.L w b1 (zu (x:Int))) (B2:Box A.L w b2 (zu (now:Int))) (B3:Box A.L w b3 (.pointer (some ⟨A.bt s,0,none⟩))) (B4:Box A.L w b4 (.pointer (some ⟨A.bc s,0,none⟩))) (hm:σ.word 0≠x):
 Calls Tryz.prog 112 #[.pointer (some ⟨b0,0,none⟩),.pointer (some ⟨b1,0,none⟩),.pointer (some ⟨b2,0,none⟩),.pointer (some ⟨b3,0,none⟩),.pointer (some ⟨b4,0,none⟩)] w (Ran A w s (σ.run s (.turn x now))):=by
 have c0:=B0.cell;have c1:=B1.cell;have c2:=B2.cell;have c3:=B3.cell;have e2:=hR.z2;have t0:w.cell? ⟨A.bt s,0,none⟩=some (zi (t.id:Int)):=hR.txn ht 0 rfl;have n1:IntKind.u64.wrap ((now:Int)+1)=(now:Int)+1:=by rw[IntKind.wrap_u64];omega
 have hk:Calls Tryz.prog 61 #[zu ((now:Int)+1),zi (t.id:Int)] w.drew fun e w'=>e=.returned (zu ((clockW (now+1) t.id:Nat):Int))∧w'=w.drew:=flip (clock_any (now+1) t.id (by omega) hid w.drew)
 have HC:=zH hk;have HL:=zH (cas_i hR.drew 0 x (clockW (now+1) t.id) 0 rfl (by rw[hR.nw];omega) hcnt);have HG:=zG A.L w;have hrun:σ.run s (.turn x now)=(σ.tick,some .draw):=by simp[St.run,St.cas,hm]
 rw[hrun];have hb:(σ.word 0==x)=false:=by simpa using hm
 have hcs:σ.cas 0 x (clockW (now+1) t.id)=σ.tick:=if_neg hm;rw[hb,hcs] at HL;have HB:Hid (∀ w1,Rep A σ.tick w1→Grow A.L w A.L w1→Calls Tryz.prog 90 #[.pointer (some ⟨A.be,0,none⟩),.pointer (some ⟨A.bt s,0,none⟩),.pointer (some ⟨A.bc s,0,none⟩)] w1 (Tells A w1 s (σ.tick,.draw))∧w1.cell? ⟨b0,0,none⟩=some (.pointer (some ⟨A.be,0,none⟩))∧w1.cell? ⟨b3,0,none⟩=some (.pointer (some ⟨A.bt s,0,none⟩))∧w1.cell? ⟨b4,0,none⟩=some (.pointer (some ⟨A.bc s,0,none⟩))):=
  fun w1 q g=>⟨draw_any q s,(B0.grow g).cell,(B3.grow g).cell,(B4.grow g).cell⟩
 clear hR ht hn hid htl hcnt B0 B1 B2 B3 B4 hm hrun hb hcs hk;go_enter Tryz.func112,Tryz.ntmps112;go_wp2_with fail;refine wp_region_still_tail 12 (by kernel_rfl) (by kernel_rfl) ?_;simp only[zta,ztb,ztc,ztd]
 repeat still_step
 still_call HC.out
 refine wpStill_nil ?_;change wpList _ _ _ _ _ w.drew;generalize w.drew=wd at*;go_wp2_with (first|(go_at_call 60;refine HL.out.mono ?_;rintro e w1 ⟨rfl,q1,q2⟩;have g1:=HG.out.trans q2;obtain⟨hf,d0,d3,d4⟩:=HB.out w1 q1 g1;have HQ:=zH (zA hf g1);clear q1 q2 g1 hf)|(go_at_call 90;refine HQ.out.1.mono ?_;rintro e w2 ⟨A2,v,rfl,p1,p2,p3,p4⟩));go_ret;exact⟨A2,v,rfl,p1,HQ.out.2.trans p2,p3,p4⟩
theorem k_turn_hit (hR:Rep A σ w) (s:Nat) (t:Txn) (ht:σ.txns.getD s none=some t) (x now:Nat) (hn:now<281474976710655) (hid:t.id<65536) (htl:σ.tale.length<1000000) (hcnt:σ.count<4000000000000000000) (b0 b1 b2 b3 b4:Nat)
 (B0:Box A.L w b0 (.pointer (some ⟨A.be,0,none⟩))) (B1:Box A.L w b1 (zu (x:Int))) (B2:Box A.L w b2 (zu (now:Int))) (B3:Box A.L w b3 (.pointer (some ⟨A.bt s,0,none⟩))) (B4:Box A.L w b4 (.pointer (some ⟨A.bc s,0,none⟩))) (hm:σ.word 0=x):
 Calls Tryz.prog 112 #[.pointer (some ⟨b0,0,none⟩),.pointer (some ⟨b1,0,none⟩),.pointer (some ⟨b2,0,none⟩),.pointer (some ⟨b3,0,none⟩),.pointer (some ⟨b4,0,none⟩)] w (Ran A w s (σ.run s (.turn x now))):=by
 have c0:=B0.cell;have c1:=B1.cell;have c2:=B2.cell;have c3:=B3.cell;have e2:=hR.z2;have t0:w.cell? ⟨A.bt s,0,none⟩=some (zi (t.id:Int)):=hR.txn ht 0 rfl;have n1:IntKind.u64.wrap ((now:Int)+1)=(now:Int)+1:=by rw[IntKind.wrap_u64];omega
 have hk:Calls Tryz.prog 61 #[zu ((now:Int)+1),zi (t.id:Int)] w.drew fun e w'=>e=.returned (zu ((clockW (now+1) t.id:Nat):Int))∧w'=w.drew:=flip (clock_any (now+1) t.id (by omega) hid w.drew)
 have HC:=zH hk;have HL:=zH (cas_i hR.drew 0 x (clockW (now+1) t.id) 0 rfl (by rw[hR.nw];omega) hcnt);have HG:=zG A.L w;have hrun:σ.run s (.turn x now)=(((σ.put 0 (clockW (now+1) t.id)).setT s {t with end_:=now+1}).event {kind:=3,t:=t.id,n:=now+1},some .helpJ):=by
  have e:∀ σ':St,σ'.txns=σ.txns→σ'.t s=t:=fun σ' h=>by unfold St.t;rw[h,ht];rfl
  simp[St.run,St.cas,hm,e _ (show (σ.put 0 (clockW (now+1) t.id)).txns=σ.txns from rfl),e σ rfl]
 rw[hrun];have hb:(σ.word 0==x)=true:=by simpa using hm
 have hcs:σ.cas 0 x (clockW (now+1) t.id)=σ.put 0 (clockW (now+1) t.id):=if_pos hm;rw[hb,hcs] at HL
 have HB : Hid (∀ w1, Rep A (σ.put 0 (clockW (now + 1) t.id)) w1 → Grow A.L w A.L w1 → w1.cell? ⟨b2, 0, none⟩ = some (zu (now : Int)) ∧ w1.cell? ⟨b3, 0, none⟩ = some (.pointer (some ⟨A.bt s, 0, none⟩)) ∧ w1.cell? ⟨A.bt s, 4, none⟩ = some (zu (t.end_ : Int)) ∧ w1.frozen? ⟨A.bt s, 4, none⟩ = false ∧
     (∀ ws, w1.setCell ⟨A.bt s, 4, none⟩ (zu ((now : Int) + 1)) = ws → ws.cell? ⟨b0, 0, none⟩ = some (.pointer (some ⟨A.be, 0, none⟩)) ∧ ws.cell? ⟨b3, 0, none⟩ = some (.pointer (some ⟨A.bt s, 0, none⟩)) ∧ ws.cell? ⟨A.bt s, 0, none⟩ = some (zi (t.id : Int)) ∧ ws.cell? ⟨A.bt s, 4, none⟩ = some (zu ((now : Int) + 1)) ∧ Grow A.L w A.L ws ∧
       Calls Tryz.prog 65 #[.pointer (some ⟨A.be,0,none⟩),.agg #[zi 3,zi (t.id:Int),zu ((now:Int)+1),zi 0,zi 0,zi 0,zi 0,zi 0,zi 0,.slice none 0 0,zi 0,zi 0]] ws.drew (Does A ws.drew s (((σ.put 0 (clockW (now+1) t.id)).setT s {t with end_:=now+1}).event {kind:=3,t:=t.id,n:=now+1}) (.tuple #[])))):=by
  intro w1 q g;have ht1:(σ.put 0 (clockW (now+1) t.id)).txns.getD s none=some t:=ht;refine⟨(B2.grow g).cell,(B3.grow g).cell,q.txn ht1 4 rfl,q.txnF ht1 4,?_⟩;rintro ws rfl;obtain⟨r2,g2⟩:=q.setTxn ht1 {t with end_:=now+1} 4 (zu ((now:Int)+1)) (by simp[txnCs]) rfl rfl rfl rfl;have ht2:((σ.put 0 (clockW (now+1) t.id)).setT s {t with end_:=now+1}).txns.getD s none=some {t with end_:=now+1}:=by rw[getT_set (lt_of_txn ht1),if_pos rfl]
  have gg:=g.trans g2;exact⟨(B0.grow gg).cell,(B3.grow gg).cell,r2.txn ht2 0 rfl,r2.txn ht2 4 rfl,gg,event_any r2.drew s _ 3 t.id (now+1) 0 0 0 0 0 0 0 0 none 0 0 rfl (PRow.nil _ _) htl⟩
 have HX:=zH (zA B0 (zA B3 B4));clear hR ht hn hid htl hcnt B0 B1 B2 B3 B4 hm hrun hb hcs hk;go_enter Tryz.func112,Tryz.ntmps112;go_wp2_with fail;refine wp_region_still_tail 12 (by kernel_rfl) (by kernel_rfl) ?_;simp only[zta,ztb,ztc,ztd]
 repeat still_step
 still_call HC.out
 refine wpStill_nil ?_;change wpList _ _ _ _ _ w.drew;generalize w.drew=wd at*;go_wp2_with (go_at_call 60;refine HL.out.mono ?_;rintro e w1 ⟨rfl,q1,q2⟩;have g1:=HG.out.trans q2;obtain⟨d2,d3,d4,d5,hf⟩:=HB.out w1 q1 g1;have HQ:=zH hf;clear q1 q2 g1 hf);generalize hws:World.setCell _ _ _=ws;obtain⟨a0,a3,a5,a4,gg,hf⟩:=HQ.out ws hws;have HE:=zH (zA hf gg);clear d2 d3 d4 d5 hf gg hws HQ;refine wp_region_still_tail 10 (by kernel_rfl) (by kernel_rfl) ?_;simp only[zta,ztb,ztc,ztd]
 repeat still_step
 refine wpStill_nil ?_;change wpList _ _ _ _ _ ws.drew;have HG2:Hid (Grow A.L ws A.L ws.drew):=Grow.drew _ _;generalize ws.drew=wd2 at*;go_wp2_with (go_at_call 65;refine HE.out.1.mono ?_;rintro e w2 ⟨rfl,A2,p1,p2,p3,p4,p5⟩;have HR:=zH (zA p1 (zA p2 (zA p3 (zA p4 p5))));clear p1 p2 p3 p4 p5);go_ret;obtain⟨p1,p2,p3,p4,p5⟩:=HR.out;obtain⟨B0,B3,B4⟩:=HX.out;have g3:=(HE.out.2.trans HG2.out).trans p2;refine⟨A2,_,rfl,p1,g3,p3,?_⟩;have ek:kp A2 (((σ.put 0 (clockW (now+1) t.id)).setT s {t with end_:=now+1}).event {kind:=3,t:=t.id,n:=now+1}) s=kp A σ s:=kp_same p3 p4 p5 rfl rfl;show KRep (kp A2 _ s) _ _ _ _;rw[ek];exact⟨_,_,_,rfl,B0.grow g3,B3.grow g3,B4.grow g3⟩
theorem k_turn (hR:Rep A σ w) (s:Nat) (t:Txn) (ht:σ.txns.getD s none=some t) (x now:Nat) (hn:now<281474976710655) (hid:t.id<65536) (htl:σ.tale.length<1000000) (hcnt:σ.count<4000000000000000000) (b0 b1 b2 b3 b4:Nat)
 (B0:Box A.L w b0 (.pointer (some ⟨A.be,0,none⟩))) (B1:Box A.L w b1 (zu (x:Int))) (B2:Box A.L w b2 (zu (now:Int))) (B3:Box A.L w b3 (.pointer (some ⟨A.bt s,0,none⟩))) (B4:Box A.L w b4 (.pointer (some ⟨A.bc s,0,none⟩))):
 Calls Tryz.prog 112 #[.pointer (some ⟨b0,0,none⟩),.pointer (some ⟨b1,0,none⟩),.pointer (some ⟨b2,0,none⟩),.pointer (some ⟨b3,0,none⟩),.pointer (some ⟨b4,0,none⟩)] w (Ran A w s (σ.run s (.turn x now))):=by
 by_cases hm:σ.word 0=x
 · exact k_turn_hit hR s t ht x now hn hid htl hcnt b0 b1 b2 b3 b4 B0 B1 B2 B3 B4 hm
 · exact k_turn_miss hR s t ht x now hn hid htl hcnt b0 b1 b2 b3 b4 B0 B1 B2 B3 B4 hm
theorem store_i (h:Rep A σ w) (i n:Nat) (z y:Int) (hz:z=(i:Int)) (hy:y=(n:Int)) (hi:i<σ.words.length) (hc:σ.count<4000000000000000000):
 Calls Tryz.prog 62 #[.pointer (some ⟨A.ba,0,none⟩),zi z,zu y] w (Did A w (σ.put i n) (.tuple #[])):=by subst hz hy;exact store_any h i n hi hc
theorem trnCs_length (l:List Trn):(trnCs l).length=l.length*3:=by
 induction l with
 |nil=>rfl
 |cons x l ih=>simp only[trnCs,List.flatMap_cons,List.length_append,List.length_cons,List.length_nil] at ih ⊢;omega
theorem turns_any (hR:Rep A σ w) (s:Nat) (l:List Trn) (lv:Value) (hl:FRow A.L w 3 lv (trnCs l)) (r:Res) (vp:Value) (hp:(vp=A.vpairs s∧r.pairs=(σ.c s).r.pairs)∨(vp=.slice none 0 0∧r.pairs=[])):
 Calls Tryz.prog 120 #[.pointer (some ⟨A.be,0,none⟩),.pointer (some ⟨A.bt s,0,none⟩),.pointer (some ⟨A.bc s,0,none⟩),lv,.agg #[zi (r.e:Int),zi (r.value:Int),vp,zi (r.over:Int),zi (r.reason:Int)]] w (Tells A w s (σ,.turns l r)):=by
 have hl0:=hl;obtain⟨a,n,cap,rfl,hlen,hcap,hmax,hrow⟩:=hl;rw[trnCs_length] at hlen;have FA:=zH (allocs5 hR #[.pointer (some ⟨A.be,0,none⟩)] 32 #[.pointer (some ⟨A.bt s,0,none⟩)] 93 #[.pointer (some ⟨A.bc s,0,none⟩)] 98 #[.slice a n cap] 221 #[zi (r.e:Int),zi (r.value:Int),vp,zi (r.over:Int),zi (r.reason:Int)] 49);have HL:=zH (zA hl0 hp);clear hR hp hl0 hcap hmax hrow
 cases l with
 |nil=>
  obtain rfl:n=0:=by simp at hlen;omega
  clear hlen;go_enter Tryz.func120,Tryz.ntmps120;go_wp2_with fail;go_ret;obtain⟨r1,r2,f0,f1,f2,f3,f4⟩:=FA.out;exact⟨A,_,rfl,r1,r2,Stay.refl _ _,_,_,_,_,rfl,f0.box,f1.box,f2.box,_,_,f4,HL.out.2⟩
 |cons x l=>
  have hn0:n≠0:=by simp at hlen;omega
  have d1:((n:Int)==0)=false:=by simp;omega
  have d2:((n:Int)=0)=False:=by simp;omega
  have d3:(n=0)=False:=by simp;omega
  clear hlen hn0;go_enter Tryz.func120,Tryz.ntmps120;go_wp2_with fail;go_ret;obtain⟨r1,r2,f0,f1,f2,f3,f4⟩:=FA.out;exact⟨A,_,rfl,r1,r2,Stay.refl _ _,_,_,_,_,_,rfl,⟨_,f3.box,HL.out.1.grow r2⟩,f0.box,f1.box,f2.box,_,_,f4,HL.out.2⟩
theorem k_turnsE (hR:Rep A σ w) (s:Nat) (t:Txn) (ht:σ.txns.getD s none=some t) (c:Cal) (hc:σ.calls.getD s none=some c) (r:Res) (hs:s<8) (hcnt:σ.count<4000000000000000000) (b0 b1 b2 b3:Nat)
 (B0:Box A.L w b0 (.pointer (some ⟨A.be,0,none⟩))) (B1:Box A.L w b1 (.pointer (some ⟨A.bt s,0,none⟩))) (B2:Box A.L w b2 (.pointer (some ⟨A.bc s,0,none⟩))) (B3:ResBox (kp A σ s) A.L w b3 r):
 Calls Tryz.prog 140 #[.pointer (some ⟨b0,0,none⟩),.pointer (some ⟨b1,0,none⟩),.pointer (some ⟨b2,0,none⟩),.pointer (some ⟨b3,0,none⟩)] w (Ran A w s (σ.run s (.turns [] r))):=by
 obtain⟨vp,TR,FR,hp⟩:=B3;have hps:(kp A σ s).ps=c.r.pairs:=by show (σ.c s).r.pairs=_;rw[call_get hc]
 rw[hps] at hp;have hform:∃ a n cap,vp=.slice a n cap:=by
  rcases hp with ⟨h1,_⟩|⟨h1,_⟩
  · have hown:=hR.mem.all (.pairs s)
    rw[mem_pairs hc] at hown;obtain⟨a,cap,h2,_⟩:=Ow.own_form hown.1;exact⟨a,_,cap,h1.trans h2⟩
  · exact⟨none,0,0,h1⟩
 obtain⟨va,vn,vc,hvp⟩:=hform;have c0:=B0.cell;have c1:=B1.cell;have c2:=B2.cell;have e2:=hR.z2;have t2:w.cell? ⟨A.bt s,2,none⟩=some (zi (s:Int)):=hR.txn ht 2 rfl;have n1:IntKind.i64.wrap (1+(s:Int))=1+(s:Int):=by rw[IntKind.wrap_i64];omega
 have HL:=zH (store_i hR.drew (1+s) 0 (1+(s:Int)) 0 (by omega) rfl (by rw[hR.nw];omega) hcnt);have HG:=zG A.L w;have HK:Hid (∀ w',Rep A σ w'→Grow A.L w A.L w'→w'.cell? ⟨b0,0,none⟩=some (.pointer (some ⟨A.be,0,none⟩))∧w'.cell? ⟨A.be,2,none⟩=some (.pointer (some ⟨A.ba,0,none⟩))∧w'.cell? ⟨b1,0,none⟩=some (.pointer (some ⟨A.bt s,0,none⟩))∧w'.cell? ⟨A.bt s,2,none⟩=some (zi (s:Int))):=fun w' r g=>⟨(B0.grow g).cell,r.eng 2 rfl,(B1.grow g).cell,r.txn ht 2 rfl⟩
 have HB:Hid (∀ w1,Rep A (σ.put (1+s) 0) w1→Grow A.L w A.L w1→Calls Tryz.prog 132 #[.pointer (some ⟨A.be,0,none⟩),.pointer (some ⟨A.bc s,0,none⟩),.agg #[zi (r.e:Int),zi (r.value:Int),vp,zi (r.over:Int),zi (r.reason:Int)]] w1 (Ran A w1 s ((σ.put (1+s) 0).finish s r,none))∧w1.cell? ⟨b0,0,none⟩=some (.pointer (some ⟨A.be,0,none⟩))∧w1.cell? ⟨b2,0,none⟩=some (.pointer (some ⟨A.bc s,0,none⟩))∧w1.cell? ⟨b3,0,none⟩=some (zi (r.e:Int))∧w1.cell? ⟨b3,1,none⟩=some (zi (r.value:Int))∧w1.cell? ⟨b3,2,none⟩=some vp∧w1.cell? ⟨b3,3,none⟩=some (zi (r.over:Int))∧w1.cell? ⟨b3,4,none⟩=some (zi (r.reason:Int))):=by
  intro w1 q g;have fr:=FR.grow g;exact⟨finish_any q s c hc r va vn vc vp hvp hp,(B0.grow g).cell,(B2.grow g).cell,fr.cell 0 rfl,fr.cell 1 rfl,fr.cell 2 rfl,fr.cell 3 rfl,fr.cell 4 rfl⟩
 have hrun:σ.run s (.turns [] r)=((σ.put (1+s) 0).finish s r,none):=rfl;rw[hrun];clear hR ht hc hs hcnt B0 B1 B2 FR hp hps hrun;subst hvp;go_enter Tryz.func140,Tryz.ntmps140;go_wp2_with fail;refine wp_region_still_tail 9 (by kernel_rfl) (by kernel_rfl) ?_;simp only[zta,ztb,ztc,ztd]
 repeat still_step
 refine wpStill_nil ?_;change wpList _ _ _ _ _ w.drew;generalize w.drew=wd at*;go_wp2_with (first|(go_at_call 62;refine HL.out.mono ?_;rintro e w1 ⟨rfl,q1,q2⟩;have g1:=HG.out.trans q2;obtain⟨hf,d0,d2,k0,k1,k2,k3,k4⟩:=HB.out w1 q1 g1;have HQ:=zH (zA hf g1);clear q1 q2 g1 hf)|(go_at_call 132;refine HQ.out.1.mono ?_;rintro e w2 ⟨A2,v,rfl,p1,p2,p3,rfl⟩))
 trace_state
 go_ret;exact⟨A2,_,rfl,p1,HQ.out.2.trans p2,p3,rfl⟩
theorem k_turnsC (hR:Rep A σ w) (s:Nat) (c:Cal) (hc:σ.calls.getD s none=some c) (x:Trn) (l:List Trn) (r:Res) (hx:x.at_<σ.words.length) (hcnt:σ.count<4000000000000000000) (b0 b1 b2 b3 b4:Nat)
 (B0:ListBox A.L w b0 (x::l)) (B1:Box A.L w b1 (.pointer (some ⟨A.be,0,none⟩))) (B2:Box A.L w b2 (.pointer (some ⟨A.bt s,0,none⟩))) (B3:Box A.L w b3 (.pointer (some ⟨A.bc s,0,none⟩))) (B4:ResBox (kp A σ s) A.L w b4 r):
 Calls Tryz.prog 141 #[.pointer (some ⟨b0,0,none⟩),.pointer (some ⟨b1,0,none⟩),.pointer (some ⟨b2,0,none⟩),.pointer (some ⟨b3,0,none⟩),.pointer (some ⟨b4,0,none⟩)] w (Ran A w s (σ.run s (.turns (x::l) r))):=by
 obtain⟨vp,TR,FR,hp⟩:=B4;have hps:(kp A σ s).ps=c.r.pairs:=by show (σ.c s).r.pairs=_;rw[call_get hc]
 rw[hps] at hp;have hform:∃ a n cap,vp=.slice a n cap:=by
  rcases hp with ⟨h1,_⟩|⟨h1,_⟩
  · have hown:=hR.mem.all (.pairs s)
    rw[mem_pairs hc] at hown;obtain⟨a,cap,h2,_⟩:=Ow.own_form hown.1;exact⟨a,_,cap,h1.trans h2⟩
  · exact⟨none,0,0,h1⟩
 obtain⟨va,vn,vc,hvp⟩:=hform;obtain⟨lv,X0,R0⟩:=B0;obtain⟨a,n,cap,rfl,hlen,hcap,hmax,hrow⟩:=R0;rw[trnCs_length] at hlen;obtain rfl:n=l.length+1:=by simp at hlen;omega
 obtain⟨g,off,rfl,hlg,hltg,hcs⟩:=hrow.resolve_left (by omega);have c0:=X0.cell;have c1:=B1.cell;have c2:=B2.cell;have c3:=B3.cell;have e2:=hR.z2;have l0:w.cell? ⟨g,off,none⟩=some (zi (x.at_:Int)):=hcs 0 (by omega);have l1:w.cell? ⟨g,off+1,none⟩=some (zu (x.old:Int)):=hcs 1 (by omega);have l2:w.cell? ⟨g,off+2,none⟩=some (zu (x.new:Int)):=hcs 2 (by omega);obtain⟨r1,g1,f0⟩:=allocs1 hR #[zi (x.at_:Int),zu (x.old:Int),zu (x.new:Int)] 223;have y0:=f0.cell 0 (v:=zi (x.at_:Int)) rfl;have y1:=f0.cell 1 (v:=zu (x.old:Int)) rfl;have y2:=f0.cell 2 (v:=zu (x.new:Int)) rfl;have z1:=(B1.grow g1).cell;have ze:=r1.eng 2 (v:=.pointer (some ⟨A.ba,0,none⟩)) rfl;obtain⟨a',ha'⟩:∃ a',a'=if cap=1 then (some (⟨g,off,none⟩:Addr)) else some ⟨g,off+3,none⟩:=⟨_,rfl⟩
 have hsl:∀ w',(Instr.slice 221 (.slice (some ⟨g,off,none⟩) (l.length+1) cap) (some (zi 1)) none none).run Tryz.prog w'=.ok (.slice a' l.length (cap - 1)) w':=by
  intro w';have he:Tryz.prog.elem 221=223:=by kernel_rfl
  have hz:(sizeOf 223).run Tryz.prog w'=.ok 3 w':=by kernel_rfl
  rw[run_slice_l (P:=Tryz.prog) w' 221 (some ⟨g,off,none⟩) (l.length+1) cap (by kernel_rfl) .i64 1 (by decide) (by omega),he,hz,ha']
  by_cases h1:cap=1
  · simp[Result.andThen,sliced,h1]
  · simp[Result.andThen,sliced,h1,Addr.add]
 have HB : Hid (∀ σ' w2, Rep A σ' w2 → σ'.calls = σ.calls → Grow A.L w A.L w2 → w2.cell? ⟨b0, 0, none⟩ = some (.slice (some ⟨g, off, none⟩) (l.length + 1) cap) ∧ w2.cell? ⟨b1, 0, none⟩ = some (.pointer (some ⟨A.be, 0, none⟩)) ∧ w2.cell? ⟨b2, 0, none⟩ = some (.pointer (some ⟨A.bt s, 0, none⟩)) ∧ w2.cell? ⟨b3, 0, none⟩ = some (.pointer (some ⟨A.bc s, 0, none⟩)) ∧ w2.cell? ⟨b4, 0, none⟩ = some (zi (r.e : Int)) ∧ w2.cell? ⟨b4, 1, none⟩ = some (zi (r.value : Int)) ∧ w2.cell? ⟨b4, 2, none⟩ = some vp ∧ w2.cell? ⟨b4, 3, none⟩ = some (zi (r.over : Int)) ∧ w2.cell? ⟨b4, 4, none⟩ = some (zi (r.reason : Int)) ∧
     Calls Tryz.prog 120 #[.pointer (some ⟨A.be,0,none⟩),.pointer (some ⟨A.bt s,0,none⟩),.pointer (some ⟨A.bc s,0,none⟩),.slice a' l.length (cap - 1),.agg #[zi (r.e:Int),zi (r.value:Int),vp,zi (r.over:Int),zi (r.reason:Int)]] w2.drew (Tells A w2.drew s (σ',.turns l r))):=by
  intro σ' w2 q hcl gr;have fr:=FR.grow gr;have hrow':FRow A.L w2.drew 3 (.slice a' l.length (cap - 1)) (trnCs l):=by
   refine⟨_,_,_,rfl,trnCs_length l,by omega,by omega,?_⟩
   by_cases hc1:cap=1
   · exact .inl (by omega)
   refine .inr ⟨g,off+3,by rw[ha',if_neg hc1],hlg,Nat.lt_of_lt_of_le hltg gr.size,fun j hj=>?_⟩;rw[World.cell?_drew,World.cell?_of_block (w:=w) (a:=⟨g,off+3+j,none⟩) (gr.block g hltg hlg),show off+3+j=off+(3+j) by omega,hcs (3+j) (by omega)];simp[trnCs,Nat.add_comm 3 j]
  have hp':(vp=A.vpairs s∧r.pairs=(σ'.c s).r.pairs)∨(vp=.slice none 0 0∧r.pairs=[]):=by
   have e:σ'.c s=c:=by unfold St.c;rw[hcl,hc];rfl
   rw[e];exact hp
  exact⟨(X0.grow gr).cell,(B1.grow gr).cell,(B2.grow gr).cell,(B3.grow gr).cell,fr.cell 0 rfl,fr.cell 1 rfl,fr.cell 2 rfl,fr.cell 3 rfl,fr.cell 4 rfl,turns_any q.drew s l _ hrow' r vp hp'⟩
 clear ha';have HG:=zH (g1.trans (Grow.drew A.L (w.alloc (.cells #[zi (x.at_:Int),zu (x.old:Int),zu (x.new:Int)] 223))));have nl:¬ ((l.length:Int)+1≤0):=by omega
 have nl2:(0:Int)<(l.length:Int)+1:=by omega
 by_cases ho:x.old=0
 · have HL:=zH (store_any r1.drew x.at_ x.new hx hcnt)
   have hrun:σ.run s (.turns (x::l) r)=(σ.put x.at_ x.new,some (.turns l r)):=by simp only[St.run,if_pos ho]
   rw[hrun];have HB1:=zH (fun w2 q gr=>HB.out (σ.put x.at_ x.new) w2 q rfl gr);have d1:((x.old:Int)==0)=true:=by simpa using ho
   have d2:((x.old:Int)=0)=True:=by simpa using ho
   clear hR r1 g1 f0 hc hx hcnt X0 B1 B2 B3 FR hp hps hrun HB ho hlen hcap hmax hrow hcs c1 c2 c3 e2;generalize x.at_=xa at*;generalize x.old=xo at*;generalize x.new=xn at*;subst hvp;go_enter Tryz.func141,Tryz.ntmps141;go_wp2_with fail;generalize w.alloc _=w1 at*;refine wp_region_still_tail 8 (by kernel_rfl) (by kernel_rfl) ?_;simp only[zta,ztb,ztc,ztd]
   repeat still_step
   refine wpStill_nil ?_;change wpList _ _ _ _ _ w1.drew;generalize w1.drew=wd at*;go_wp2_with (go_at_call 62;refine HL.out.mono ?_;rintro e w2 ⟨rfl,q1,q2⟩;have gr:=HG.out.trans q2;obtain⟨d0,d1,d2,d3,k0,k1,k2,k3,k4,hf⟩:=HB1.out w2 q1 gr;have HQ:=zH (zA hf (gr.trans (Grow.drew _ _)));clear q1 q2 gr hf);refine wp_region_still_tail 6 (by kernel_rfl) (by kernel_rfl) ?_;simp only[zta,ztb,ztc,ztd]
   repeat still_step
   refine wpStill_nil ?_;change wpList _ _ _ _ _ w2.drew;generalize w2.drew=wd2 at*;go_wp2_with (go_at_call 120;refine HQ.out.1.mono ?_;rintro e w3 ⟨A2,v,rfl,p1,p2,p3,p4⟩);go_ret;exact⟨A2,v,rfl,p1,HQ.out.2.trans p2,p3,p4⟩
 · have HL:=zH (cas_any r1.drew x.at_ x.old x.new hx hcnt)
   have hrun:σ.run s (.turns (x::l) r)=(σ.cas x.at_ x.old x.new,some (.turns l r)):=by simp only[St.run,if_neg ho]
   rw[hrun];have HB1:=zH (fun w2 q gr=>HB.out (σ.cas x.at_ x.old x.new) w2 q (by unfold St.cas;split<;>rfl) gr);have d1:((x.old:Int)==0)=false:=by simpa using ho
   have d2:((x.old:Int)=0)=False:=by simpa using ho
   clear hR r1 g1 f0 hc hx hcnt X0 B1 B2 B3 FR hp hps hrun HB ho hlen hcap hmax hrow hcs c1 c2 c3 e2;generalize x.at_=xa at*;generalize x.old=xo at*;generalize x.new=xn at*;subst hvp;go_enter Tryz.func141,Tryz.ntmps141;go_wp2_with fail;generalize w.alloc _=w1 at*;refine wp_region_still_tail 10 (by kernel_rfl) (by kernel_rfl) ?_;simp only[zta,ztb,ztc,ztd]
   repeat still_step
   refine wpStill_nil ?_;change wpList _ _ _ _ _ w1.drew;generalize w1.drew=wd at*;go_wp2_with (go_at_call 60;refine HL.out.mono ?_;rintro e w2 ⟨rfl,q1,q2⟩;have gr:=HG.out.trans q2;obtain⟨d0,d1,d2,d3,k0,k1,k2,k3,k4,hf⟩:=HB1.out w2 q1 gr;have HQ:=zH (zA hf (gr.trans (Grow.drew _ _)));clear q1 q2 gr hf);refine wp_region_still_tail 6 (by kernel_rfl) (by kernel_rfl) ?_;simp only[zta,ztb,ztc,ztd]
   repeat still_step
   refine wpStill_nil ?_;change wpList _ _ _ _ _ w2.drew;generalize w2.drew=wd2 at*;go_wp2_with (go_at_call 120;refine HQ.out.1.mono ?_;rintro e w3 ⟨A2,v,rfl,p1,p2,p3,p4⟩);go_ret;exact⟨A2,v,rfl,p1,HQ.out.2.trans p2,p3,p4⟩
theorem trnCs_append (a b:List Trn):trnCs (a++b)=trnCs a++trnCs b:=by simp[trnCs]
theorem infoT:(Tryz.prog.info? 223).map (fun i=>(i.zero,i.size,i.bytes))=some (some (.agg #[zi 0,zu 0,zu 0]),3,24):=by kernel_rfl
theorem wp_turn {ops:Array Oper} {rest:List Oper} {o:Oper} {a:Act} {Q:Exit→Act→World→Prop} (w:World) (hgd:o.guard=none) (s x:Operand)
 (ho:o.op=.call {callee:=.builtin .append,args:=#[s,x],argTypes:=#[221,221]})
 (w0:World) (hb:Below w0.heap.size w0 w) (av:Option Addr) (m cap:Nat) (xs:List Value) (hs:a.eval s=.slice av m cap) (hown:w.ownsRow w0.heap.size 223 3 (.slice av m cap) m xs) (hm:m<4000000)
 (t0 t1 t2:Int) (hx:a.eval x=.slice (some ⟨w.heap.size,0,none⟩) 1 1)
 (h:∀ av' cap' w',w'.ownsRow w0.heap.size 223 3 (.slice av' (m+1) cap') (m+1) (xs++[zi t0,zu t1,zu t2])→Below w0.heap.size w0 w'→wpList Tryz.prog ops Q rest (a.put o.dst (.slice av' (m+1) cap')) w'):
 wpList Tryz.prog ops Q (o::rest) a (w.alloc (.cells #[zi t0,zu t1,zu t2] 223)):=by
 obtain⟨ii,hii,hz0,hz1,hz2⟩:=info_parts infoT;have hw:=hb.size;have hown':(w.alloc (.cells #[zi t0,zu t1,zu t2] 223)).ownsRow w0.heap.size 223 3 (.slice av m cap) m xs:=own_same hown fun g hg=>Below.heap_alloc _ _ _ (hown.lt g hg).2
 refine Ow.wpList_append_to _ hgd s x 221 ho w0.heap.size 223 ii _ 3 24 Tryz.underlying221 hii hz0 hz1 hz2 rfl (by decide) (.slice av m cap) m xs hs hown' ⟨w.heap.size,0,none⟩ 1 1 (by omega) [zi t0,zu t1,zu t2] hx rfl (fun j u hu=>Ow.new_row w [zi t0,zu t1,zu t2] _ _ rfl j u hu) (by intro u hu;simp at hu;rcases hu with rfl|rfl|rfl<;>rfl) (by unfold maxLen;omega) (by omega) (by simp;omega) ?_;intro v' w' q1 q2 q3;obtain⟨av',cap',rfl,_⟩:=Ow.own_form q1;exact h av' cap' w' q1 ((hb.alloc hw _).grown q2 (by simp;omega) (fun g hg=>(hown.lt g hg).1))
theorem frow_of_own {L:Lab} {w0 w:World} {av:Option Addr} {m cap:Nat} {xs:List Value} (h:w.ownsRow w0.heap.size 223 3 (.slice av m cap) m xs) (hL:∀ b,w0.heap.size≤b→L b=none):FRow L w 3 (.slice av m cap) xs:=by
 obtain⟨a,c,e,h1,h2,h3⟩:=Ow.own_form h;obtain⟨rfl,rfl⟩:av=a∧cap=c:=by simpa using e
 refine⟨av,m,cap,rfl,h.1,h1,by unfold maxLen;omega,?_⟩
 rcases h.2 with ⟨h0,hn⟩|⟨g,cap',cur,hv,hb,hg,hnc,hcm,hcs,htake⟩
 · exact .inl (by first|exact h0|omega)
 · obtain⟨rfl,rfl⟩:av=some ⟨g,0,none⟩∧cap=cap':=by simpa using hv
   refine .inr ⟨g,0,rfl,hL g (h.lt g rfl).1,(h.lt g rfl).2,fun j hj=>?_⟩;rw[Nat.zero_add];exact h.cellAt j hj
theorem turns_at (hR:Rep A σ w) (s:Nat) (l:List Trn) (lv:Value) (hl:FRow A.L w 3 lv (trnCs l)) (r:Res) (re rv ro rr:Int) (vp:Value) (hcs:resCs r vp=[zi re,zi rv,vp,zi ro,zi rr]) (hp:(vp=A.vpairs s∧r.pairs=(σ.c s).r.pairs)∨(vp=.slice none 0 0∧r.pairs=[])):
 Calls Tryz.prog 120 #[.pointer (some ⟨A.be,0,none⟩),.pointer (some ⟨A.bt s,0,none⟩),.pointer (some ⟨A.bc s,0,none⟩),lv,.agg #[zi re,zi rv,vp,zi ro,zi rr]] w (Tells A w s (σ,.turns l r)):=by
 have h:=turns_any hR s l lv hl r vp hp;simp only[resCs,List.cons.injEq,Value.int.injEq,true_and,and_true] at hcs;obtain⟨e1,e2,e3,e4⟩:=hcs;rw[e1,e2,e3,e4] at h;exact h
def KeysOk (σ:St) (t:Txn):Prop:=∀ key∈t.keys,∃ x,t.cell key=some x∧(x.own=0∨VL σ x.own)∧(x.old=0∨VL σ x.old)
def cTurn (t:Txn) (key:Nat):List Trn:=
 (if ((t.cell key).getD default).own≠0 then ⟨wslot ((t.cell key).getD default).own 0,0,t.end_⟩::(if ((t.cell key).getD default).there then [] else [⟨wslot ((t.cell key).getD default).own 1,0,t.end_⟩]) else [])
 ++(if ((t.cell key).getD default).old≠0 then [⟨wslot ((t.cell key).getD default).old 1,0,t.end_⟩] else [])
theorem commitTurns_eq (σ:St) (t:Txn):commitTurns σ t=t.keys.flatMap (cTurn t):=rfl
theorem flat_snoc (f:Nat→List Trn) (l:List Nat) (k:Nat) (h:k<l.length):(l.take (k+1)).flatMap f=(l.take k).flatMap f++f (l.getD k 0):=by
 rw[List.take_succ_eq_append_getElem h,List.flatMap_append];simp[List.getD,h]
theorem cTurn_length (t:Txn) (key:Nat):(cTurn t key).length≤3:=by
 unfold cTurn
 repeat' split
 all_goals simp
theorem flat_length (f:Nat→List Trn) (hf:∀ k,(f k).length≤3) (l:List Nat):(l.flatMap f).length≤3*l.length:=by
 induction l with
 |nil=>simp
 |cons x l ih=>simp only[List.flatMap_cons,List.length_append,List.length_cons];have:=hf x;omega
theorem help_txns (σ:St) (x:Nat):(σ.help x).txns=σ.txns:=by unfold St.help St.cas;split<;>rfl
theorem help_calls (σ:St) (x:Nat):(σ.help x).calls=σ.calls:=by unfold St.help St.cas;split<;>rfl
theorem k_helpJ (hR:Rep A σ w) (s:Nat) (t:Txn) (ht:σ.txns.getD s none=some t) (hen:t.end_<281474976710656) (hid:t.id≤2000) (hrl:t.reads.length<1000000) (hcnt:σ.count<4000000000000000000) (b0 b1 b2:Nat)
 (B0:Box A.L w b0 (.pointer (some ⟨A.be,0,none⟩))) (B1:Box A.L w b1 (.pointer (some ⟨A.bt s,0,none⟩))) (B2:Box A.L w b2 (.pointer (some ⟨A.bc s,0,none⟩))):
 Calls Tryz.prog 113 #[.pointer (some ⟨b0,0,none⟩),.pointer (some ⟨b1,0,none⟩),.pointer (some ⟨b2,0,none⟩)] w (Ran A w s (σ.run s .helpJ)):=by
 have c0:=B0.cell;have c1:=B1.cell;have t4:w.cell? ⟨A.bt s,4,none⟩=some (zu (t.end_:Int)):=hR.txn ht 4 rfl;have t0:w.cell? ⟨A.bt s,0,none⟩=some (zi (t.id:Int)):=hR.txn ht 0 rfl;have HC:=zH (flip (clock_any t.end_ t.id hen (by omega) w.drew));have hlo:lastOf (clockW t.end_ t.id)=t.id:=by unfold lastOf clockW;omega
 have HL:=zH (help_any hR.drew (clockW t.end_ t.id) (by unfold clockW;omega) (by omega) hcnt);have HG:=zG A.L w;have hrun:σ.run s .helpJ=(σ.help (clockW t.end_ t.id),some (judgeK t 0)):=by
  have e:(σ.help (clockW t.end_ t.id)).t s=t:=by unfold St.t;rw[help_txns,ht];rfl
  simp only[St.run,txn_get ht,e]
 rw[hrun];have HB:Hid (∀ w1,Rep A (σ.help (clockW t.end_ t.id)) w1→Grow A.L w A.L w1→Calls Tryz.prog 114 #[.pointer (some ⟨A.be,0,none⟩),.pointer (some ⟨A.bt s,0,none⟩),.pointer (some ⟨A.bc s,0,none⟩),zi 0] w1 (Tells A w1 s (σ.help (clockW t.end_ t.id),judgeK t 0))∧w1.cell? ⟨b0,0,none⟩=some (.pointer (some ⟨A.be,0,none⟩))∧w1.cell? ⟨b1,0,none⟩=some (.pointer (some ⟨A.bt s,0,none⟩))∧w1.cell? ⟨b2,0,none⟩=some (.pointer (some ⟨A.bc s,0,none⟩))):=
  fun w1 q g=>⟨judge_any q s t (by rw[help_txns];exact ht) 0 (Nat.zero_le _) hrl,(B0.grow g).cell,(B1.grow g).cell,(B2.grow g).cell⟩
 clear hR ht hen hid hrl hcnt B0 B1 B2 hrun hlo;generalize σ.help (clockW t.end_ t.id)=σ1 at*;generalize judgeK t 0=k at*;go_enter Tryz.func113,Tryz.ntmps113;go_wp2_with fail;refine wp_region_still_tail 10 (by kernel_rfl) (by kernel_rfl) ?_;simp only[zta,ztb,ztc,ztd]
 repeat still_step
 still_call HC.out
 refine wpStill_nil ?_;change wpList _ _ _ _ _ w.drew;generalize w.drew=wd at*;go_wp2_with (first|(go_at_call 59;refine HL.out.mono ?_;rintro e w1 ⟨rfl,q1,q2⟩;have g1:=HG.out.trans q2;obtain⟨hf,d0,d1,d2⟩:=HB.out w1 q1 g1;have HQ:=zH (zA hf g1);clear q1 q2 g1 hf)|(go_at_call 114;refine HQ.out.1.mono ?_;rintro e w2 ⟨A2,v,rfl,p1,p2,p3,p4⟩));go_ret;exact⟨A2,v,rfl,p1,HQ.out.2.trans p2,p3,p4⟩
set_option maxHeartbeats 16000000 in
theorem k_commit (hR:Rep A σ w) (s:Nat) (t:Txn) (ht:σ.txns.getD s none=some t) (hm:A.mt s=0) (hen:t.end_≤1099511627776) (hid:t.id≤2000) (hkl:t.keys.length<1000000) (hK:KeysOk σ t) (htl:σ.tale.length<1000000) (hcnt:σ.count<4000000000000000000) (b0 b1 b2:Nat)
 (B0:Box A.L w b0 (.pointer (some ⟨A.be,0,none⟩))) (B1:Box A.L w b1 (.pointer (some ⟨A.bt s,0,none⟩))) (B2:Box A.L w b2 (.pointer (some ⟨A.bc s,0,none⟩))):
 Calls Tryz.prog 174 #[.pointer (some ⟨b0,0,none⟩),.pointer (some ⟨b1,0,none⟩),.pointer (some ⟨b2,0,none⟩)] w (Ran A w s (σ.run s .commit)):=by
 have c0:=B0.cell;have c1:=B1.cell;have e2:=hR.z2;have t4:w.cell? ⟨A.bt s,4,none⟩=some (zu (t.end_:Int)):=hR.txn ht 4 rfl;have t0:w.cell? ⟨A.bt s,0,none⟩=some (zi (t.id:Int)):=hR.txn ht 0 rfl;have HP:=zH (place_still hR.drew t.id (by omega));have HA:=zH (pack_still 3 (t.end_:Int) 3 t.end_ rfl rfl (by omega) (by omega) w.drew);have HL:=zH (store_any hR.drew (σ.place t.id) (pack 3 t.end_) (by rw[hR.nw];unfold St.place;omega) hcnt);have HG:=zG A.L w;obtain⟨σ2,hσ2⟩:∃ σ2,σ2=(σ.put (σ.place t.id) (pack 3 t.end_)).tellEnd s {kind:=5,t:=t.id}:=⟨_,rfl⟩
 have hrun:σ.run s .commit=(σ2,some (.turns (t.keys.flatMap (cTurn t)) {over:=3})):=by
  rw[hσ2,←commitTurns_eq (σ.put (σ.place t.id) (pack 3 t.end_)) t];simp only[St.run,txn_get ht];rfl
 rw[hrun];obtain⟨t2,ht2,hk2,hc2,hen2⟩:∃ t2,σ2.txns.getD s none=some t2∧t2.keys=t.keys∧t2.cells=t.cells∧t2.end_=t.end_:=by
  have ht1:(σ.put (σ.place t.id) (pack 3 t.end_)).txns.getD s none=some t:=ht;rw[hσ2];unfold St.tellEnd;rw[txn_get ht1]
  by_cases ho:t.over=true
  · rw[if_pos ho];exact⟨t,ht1,rfl,rfl,rfl⟩
  · rw[if_neg ho]
    refine⟨{t with over:=true},?_,rfl,rfl,rfl⟩;show ((σ.put (σ.place t.id) (pack 3 t.end_)).setT s {t with over:=true}).txns.getD s none=_;rw[getT_set (lt_of_txn ht1),if_pos rfl]
 have hsl2:σ2.slots=σ.slots:=by rw[hσ2];unfold St.tellEnd;split<;>rfl
 have HB1:Hid (∀ w1,Rep A (σ.put (σ.place t.id) (pack 3 t.end_)) w1→Grow A.L w A.L w1→Calls Tryz.prog 117 #[.pointer (some ⟨A.be,0,none⟩),.pointer (some ⟨A.bt s,0,none⟩),.agg #[zi 5,zi (t.id:Int),zu 0,zi 0,zi 0,zi 0,zi 0,zi 0,zi 0,.slice none 0 0,zi 0,zi 0]] w1.drew (Told A w1.drew s σ2)∧w1.cell? ⟨b0,0,none⟩=some (.pointer (some ⟨A.be,0,none⟩))∧w1.cell? ⟨b1,0,none⟩=some (.pointer (some ⟨A.bt s,0,none⟩))∧w1.cell? ⟨A.bt s,0,none⟩=some (zi (t.id:Int))):=by
  intro w1 q g;rw[hσ2];exact⟨tell_any q.drew s t ht hm _ 5 t.id 0 rfl rfl htl,(B0.grow g).cell,(B1.grow g).cell,q.txn ht 0 rfl⟩
 have HB2 : Hid (∀ A2 w2, Rep A2 σ2 w2 → Grow A.L w A2.L w2 → Stay A A2 s → A2.bx = A.bx → ∀ w3, Below w2.heap.size w2 w3 → w3.cell? ⟨b0, 0, none⟩ = some (.pointer (some ⟨A.be, 0, none⟩)) ∧ w3.cell? ⟨b1, 0, none⟩ = some (.pointer (some ⟨A.bt s, 0, none⟩)) ∧ w3.cell? ⟨b2, 0, none⟩ = some (.pointer (some ⟨A.bc s, 0, none⟩)) ∧ w3.cell? ⟨A.bt s, 4, none⟩ = some (zu (t.end_ : Int)) ∧ w3.cell? ⟨A.bt s, 7, none⟩ = some (.map (some (A.bm s))) ∧ w3.cell? ⟨A.bt s, 6, none⟩ = some (A2.vkeys s) ∧
     (∃ av cap,A2.vkeys s=.slice av t.keys.length cap)∧(∀ k,k<t.keys.length→∀ g cap,A2.vkeys s=.slice (some ⟨g,0,none⟩) t.keys.length cap→w3.cell? ⟨g,k,none⟩=some (zi (t.keys.getD k 0:Int)))∧(∀ k,k<t.keys.length→∃ g cap,A2.vkeys s=.slice (some ⟨g,0,none⟩) t.keys.length cap)∧
     (∀ key x,t.cell key=some x→(Instr.lookup 105 (.map (some (A.bm s))) (zi (key:Int)) false).run Tryz.prog w3=.ok (.pointer (some ⟨A.bx s key,0,none⟩)) w3∧w3.cell? ⟨A.bx s key,0,none⟩=some (zu (x.own:Int))∧w3.cell? ⟨A.bx s key,1,none⟩=some (zu (x.old:Int))∧w3.cell? ⟨A.bx s key,2,none⟩=some (.bool x.there))):=by
  intro A2 w2 q g st hbx w3 hb;have r3:=q.below hb;have gg:=g.trans (Grow.below (L:=A2.L) hb);have a4:=r3.txn ht2 4 (v:=zu (t2.end_:Int)) rfl;have a7:=r3.txn ht2 7 (v:=.map (some (A2.bm s))) rfl;have a6:=r3.txn ht2 6 (v:=A2.vkeys s) rfl;rw[st.bt] at a4 a7 a6;rw[st.bm] at a7;rw[hen2] at a4;have hown:=r3.mem.all (.keys s);rw[mem_keys ht2,hk2] at hown;obtain⟨av,cap,hv,_⟩:=Ow.own_form hown.1;have hget:∀ k,k<t.keys.length→(t.keys.map i64)[k]? =some (i64 (t.keys.getD k 0)):=fun k hk=>by simp[List.getD,hk]
  refine⟨(B0.grow gg).cell,(B1.grow gg).cell,(B2.grow gg).cell,a4,a7,a6,⟨av,cap,hv⟩,fun k hk g' cap' hv'=>?_,fun k hk=>?_,fun key x hx=>?_⟩
  · obtain⟨g1,cap1,hv1,hc1⟩:=own_at hown.1 (hget k hk)
    rw[hv'] at hv1;obtain⟨rfl,_⟩:g'=g1∧cap'=cap1:=by simpa using hv1
    exact hc1
  · obtain⟨g1,cap1,hv1,hc1⟩:=own_at hown.1 (hget k hk)
    exact⟨g1,cap1,hv1⟩
  · have hx2:t2.cell key=some x:=by unfold Txn.cell at hx ⊢;rw[hc2];exact hx
    have hl:=lookup_run r3 ht2 key;have hpx:A2.px s t2 key=.pointer (some ⟨A2.bx s key,0,none⟩):=by unfold Book.px;rw[hx2];rfl
    rw[hpx,hbx,st.bm] at hl;obtain⟨x0,x1,x2⟩:=r3.cel ht2 hx2;rw[hbx] at x0 x1 x2;exact⟨hl,x0,x1,x2⟩
 have HT:=zH (Word.time_yes (t.end_:Int) (by omega) (by omega));have HTU:Hid (∀ A2 w2,Rep A2 σ2 w2→Stay A A2 s→∀ w3 av m cap,Below w2.heap.size w2 w3→w3.ownsRow w2.heap.size 223 3 (.slice av m cap) m (trnCs (t.keys.flatMap (cTurn t)))→Calls Tryz.prog 120 #[.pointer (some ⟨A.be,0,none⟩),.pointer (some ⟨A.bt s,0,none⟩),.pointer (some ⟨A.bc s,0,none⟩),.slice av m cap,.agg #[zi 0,zi 0,.slice none 0 0,zi 3,zi 0]] w3 (Tells A2 w3 s (σ2,.turns (t.keys.flatMap (cTurn t)) {over:=3}))):=by
  intro A2 w2 q st w3 av m cap hb ho;have h:=turns_at (q.below hb) s (t.keys.flatMap (cTurn t)) (.slice av m cap) (frow_of_own ho q.mem.fresh) {over:=3} 0 0 3 0 (.slice none 0 0) rfl (.inr ⟨rfl,rfl⟩);rw[st.be,st.bt,st.bc] at h;exact h
 have HS:Hid (∀ (l n:Nat),VL σ l→n≤2→∀ w,Calls Tryz.prog 72 #[zu (l:Int),zi (n:Int)] w fun e w'=>e=.returned (zi ((wslot l n:Nat):Int))∧w=w'):=fun l n hv hn w'=>slot_any l n hv.lo (by have:=hv.hi;have:=hR.sl;omega) hv.u hn w'
 have HKK:=zH (zA hK hkl);clear hR ht hm hen hid hkl hK htl hcnt B0 B1 B2 hrun hσ2 ht2 hk2 hc2 hen2 hsl2;go_enter Tryz.func174,Tryz.ntmps174;go_wp2_with fail;refine wp_region_still_tail 15 (by kernel_rfl) (by kernel_rfl) ?_;simp only[zta,ztb,ztc,ztd]
 repeat still_step
 still_call HP.out
 repeat still_step
 still_call HA.out
 refine wpStill_nil ?_;change wpList _ _ _ _ _ w.drew;generalize w.drew=wd at*;go_wp2_with (go_at_call 62;refine HL.out.mono ?_;rintro e w1 ⟨rfl,q1,q2⟩;have g1:=HG.out.trans q2;obtain⟨hf,d0,d1,d2⟩:=HB1.out w1 q1 g1;have HQ:=zH (zA hf (g1.trans (Grow.drew _ _)));clear q1 q2 g1 hf);refine wp_region_still_tail 7 (by kernel_rfl) (by kernel_rfl) ?_;simp only[zta,ztb,ztc,ztd]
 repeat still_step
 refine wpStill_nil ?_;change wpList _ _ _ _ _ w1.drew;generalize w1.drew=wd1 at*;go_wp2_with (first|(go_at_call 117;refine HQ.out.1.mono ?_;rintro e w2 ⟨rfl,A2,q1,q2,q3,q4,q5⟩;obtain⟨y0,y1,y2,y4,y7,y6,⟨kv,kc,hkv⟩,_,_,_⟩:=HB2.out A2 w2 q1 (HQ.out.2.trans q2) q3 q4 w2 (Below.refl _ _);rw[hkv] at y6;have H2:=zH (zA q1 (zA (HQ.out.2.trans q2) (zA q3 (zA q4 hkv))));clear q1 q2 q3 q4 q5 hkv)|(go_at_call 175;refine (HT.out _).mono ?_;rintro e w3 ⟨rfl,rfl⟩))
 go_loopw [6,47] (fun l i wr=>∃ k:Nat,k≤t.keys.length∧i=zi (k:Int)∧Below w2.heap.size w2 wr∧∃ av cap,l=.slice av ((t.keys.take k).flatMap (cTurn t)).length cap∧wr.ownsRow w2.heap.size 223 3 l ((t.keys.take k).flatMap (cTurn t)).length (trnCs ((t.keys.take k).flatMap (cTurn t)))) (fun _ i _=>t.keys.length - (intOf i).toNat)
 case atStart=>
  exact⟨0,Nat.zero_le _,rfl,Below.refl _ _,none,0,rfl,rfl,.inl ⟨rfl,rfl⟩⟩
 case round=>
  obtain⟨k,hk,rfl,hb,av,cap,rfl,hown⟩:=hrel;have hm0:=flat_length (cTurn t) (cTurn_length t) (t.keys.take k)
  by_cases hlt:k<t.keys.length
  · obtain⟨x0,x1,x2,x4,x7,x6,_,hget,hform,hcel⟩:=HB2.out A2 w2 H2.out.1 H2.out.2.1 H2.out.2.2.1 H2.out.2.2.2.1 wr hb
    obtain⟨g,cap',hv⟩:=hform k hlt;obtain⟨rfl,rfl⟩:kv=some ⟨g,0,none⟩∧kc=cap':=by have:=H2.out.2.2.2.2.symm.trans hv;simpa using this
    have hke:=hget k hlt g kc hv;obtain⟨x,hx,ho1,ho2⟩:=HKK.out.1 (t.keys.getD k 0) (by simp[List.getD,hlt]);obtain⟨hlk,ce0,ce1,ce2⟩:=hcel _ x hx;have hfs:=flat_snoc (cTurn t) t.keys k hlt;have hcT:cTurn t (t.keys.getD k 0)=(if x.own≠0 then ⟨wslot x.own 0,0,t.end_⟩::(if x.there then [] else [⟨wslot x.own 1,0,t.end_⟩]) else [])++(if x.old≠0 then [⟨wslot x.old 1,0,t.end_⟩] else []):=by unfold cTurn;rw[hx];rfl
    rw[hcT] at hfs;have hlen:(t.keys.take k).length≤1000000:=by have:=HKK.out.2;simp;omega
    have HC:Hid (∀ w',Below w2.heap.size w2 w'→w'.cell? ⟨A.bx s (t.keys.getD k 0),0,none⟩=some (zu (x.own:Int))∧w'.cell? ⟨A.bx s (t.keys.getD k 0),1,none⟩=some (zu (x.old:Int))∧w'.cell? ⟨A.bx s (t.keys.getD k 0),2,none⟩=some (.bool x.there)):=fun w' hb'=>by
     obtain⟨_,_,_,_,_,_,_,_,_,hcel'⟩:=HB2.out A2 w2 H2.out.1 H2.out.2.1 H2.out.2.2.1 H2.out.2.2.2.1 w' hb';exact (hcel' _ x hx).2
    have HO:=zH (zA ho1 (zA ho2 (zA hlt hfs)));have nb1:(k:Int)<(t.keys.length:Int):=by omega
    have n1:IntKind.i64.wrap ((k:Int)+1)=(k:Int)+1:=by rw[IntKind.wrap_i64];have:=HKK.out.2;omega
    clear x0 x2 y0 y1 y2 y4 y7 y6 hget hform hcel hv ho1 ho2 hcT hx;generalize t.keys.getD k 0=key at*;generalize hxs:trnCs ((t.keys.take k).flatMap (cTurn t))=xs at*;have HXS:=zH hxs;clear hxs;generalize hmm:((t.keys.take k).flatMap (cTurn t)).length=m at*;have HM:=zH hmm;clear hmm hfs;have hm1:m<3000001:=by omega
    clear hm0 hlen hk;generalize A.bx s key=bx at*
    by_cases ho:x.own≠0
    · have ho':x.own≠0:=ho
      have d1:((x.own:Int)==0)=false:=by simp;omega
      have d2:((x.own:Int) !=0)=true:=by simp;omega
      have d3:((x.own:Int)=0)=False:=by simp;omega
      clear ho'
      cases ht:x.there with
      |true=>
       by_cases hl:x.old≠0
       · have e1:((x.old:Int)==0)=false:=by simp;omega
         have e2:((x.old:Int) !=0)=true:=by simp;omega
         have e3:((x.old:Int)=0)=False:=by simp;omega
         have hfs:=HO.out.2.2.2;simp only[if_pos ho,if_pos hl,ht,if_true,if_false,Bool.false_eq_true,List.nil_append,List.append_nil,List.cons_append] at hfs;have HFS:=zH hfs;clear hfs;obtain⟨ws,W0,W1,W2⟩:∃ ws:Int→Int→Int,ws (x.own:Int) 0=((wslot x.own 0:Nat):Int)∧ws (x.own:Int) 1=((wslot x.own 1:Nat):Int)∧ws (x.old:Int) 1=((wslot x.old 1:Nat):Int):=⟨fun a b=>if b=0 then ((wslot a.toNat 0:Nat):Int) else ((wslot a.toNat 1:Nat):Int),by simp,by simp,by simp⟩
         have SL:Hid (∀ a b:Int,((a=(x.own:Int)∧b=0)∨(a=(x.own:Int)∧b=1)∨(a=(x.old:Int)∧b=1))→∀ w,Calls Tryz.prog 72 #[zu a,zi b] w fun e w'=>e=.returned (zi (ws a b))∧w=w'):=by
          rintro a b (⟨rfl,rfl⟩|⟨rfl,rfl⟩|⟨rfl,rfl⟩) w''
          · rw[W0];exact (HS.out x.own 0 (HO.out.1.resolve_left ho) (by omega) w'')
          · rw[W1];exact (HS.out x.own 1 (HO.out.1.resolve_left ho) (by omega) w'')
          · rw[W2];exact (HS.out x.old 1 (HO.out.2.1.resolve_left hl) (by omega) w'')
         have HW:=zH (zA W0 (zA W1 W2));clear W0 W1 W2;clear ho hl;rw[ht] at ce2 HC;clear ht;go_wp2_with (first|(go_at_call 72;refine (SL.out _ _ (by first|exact .inl ⟨rfl,rfl⟩|exact .inr (.inl ⟨rfl,rfl⟩)|exact .inr (.inr ⟨rfl,rfl⟩)) _).mono ?_;rintro e w' ⟨rfl,rfl⟩)|(refine wp_turn _ rfl _ _ rfl w2 (by assumption) _ _ _ _ rfl (by assumption) (by omega) _ _ _ rfl ?_;intro avl capl wl ql pl;obtain⟨ce0,ce1,ce2⟩:=HC.out wl pl))
         go_roundw
         case rel=>
          simp only[HW.out.1,HW.out.2.1,HW.out.2.2] at ql;refine⟨k+1,by have:=HO.out.2.2.1;omega,rfl,pl,avl,capl,?_,?_⟩
          · first|(rw[HFS.out,List.length_append,HM.out];done)|(rw[HFS.out,List.length_append,HM.out];rfl)
          · rw[HFS.out,List.length_append,HM.out,trnCs_append,HXS.out];simp only[List.append_assoc,List.cons_append,List.nil_append] at ql;exact ql
         case measure=>have:=HO.out.2.2.1;simp[intOf];omega
       · have e1:((x.old:Int)==0)=true:=by simp;omega
         have e2:((x.old:Int) !=0)=false:=by simp;omega
         have e3:((x.old:Int)=0)=True:=by simp;omega
         have hfs:=HO.out.2.2.2;simp only[if_pos ho,if_neg hl,ht,if_true,if_false,Bool.false_eq_true,List.nil_append,List.append_nil,List.cons_append] at hfs;have HFS:=zH hfs;clear hfs;obtain⟨ws,W0,W1,W2⟩:∃ ws:Int→Int→Int,ws (x.own:Int) 0=((wslot x.own 0:Nat):Int)∧ws (x.own:Int) 1=((wslot x.own 1:Nat):Int)∧ws (x.old:Int) 1=((wslot x.old 1:Nat):Int):=⟨fun a b=>if b=0 then ((wslot a.toNat 0:Nat):Int) else ((wslot a.toNat 1:Nat):Int),by simp,by simp,by simp⟩
         have SL:Hid (∀ a b:Int,((a=(x.own:Int)∧b=0)∨(a=(x.own:Int)∧b=1)∨False)→∀ w,Calls Tryz.prog 72 #[zu a,zi b] w fun e w'=>e=.returned (zi (ws a b))∧w=w'):=by
          rintro a b (⟨rfl,rfl⟩|⟨rfl,rfl⟩|h) w''
          · rw[W0];exact (HS.out x.own 0 (HO.out.1.resolve_left ho) (by omega) w'')
          · rw[W1];exact (HS.out x.own 1 (HO.out.1.resolve_left ho) (by omega) w'')
          · exact h.elim
         have HW:=zH (zA W0 (zA W1 W2));clear W0 W1 W2;clear ho hl;rw[ht] at ce2 HC;clear ht;go_wp2_with (first|(go_at_call 72;refine (SL.out _ _ (by first|exact .inl ⟨rfl,rfl⟩|exact .inr (.inl ⟨rfl,rfl⟩)|exact .inr (.inr ⟨rfl,rfl⟩)) _).mono ?_;rintro e w' ⟨rfl,rfl⟩)|(refine wp_turn _ rfl _ _ rfl w2 (by assumption) _ _ _ _ rfl (by assumption) (by omega) _ _ _ rfl ?_;intro avl capl wl ql pl;obtain⟨ce0,ce1,ce2⟩:=HC.out wl pl))
         go_roundw
         case rel=>
          simp only[HW.out.1,HW.out.2.1,HW.out.2.2] at ql;refine⟨k+1,by have:=HO.out.2.2.1;omega,rfl,pl,avl,capl,?_,?_⟩
          · first|(rw[HFS.out,List.length_append,HM.out];done)|(rw[HFS.out,List.length_append,HM.out];rfl)
          · rw[HFS.out,List.length_append,HM.out,trnCs_append,HXS.out];exact ql
         case measure=>have:=HO.out.2.2.1;simp[intOf];omega
          |false=>
       by_cases hl:x.old≠0
       · have e1:((x.old:Int)==0)=false:=by simp;omega
         have e2:((x.old:Int) !=0)=true:=by simp;omega
         have e3:((x.old:Int)=0)=False:=by simp;omega
         have hfs:=HO.out.2.2.2;simp only[if_pos ho,if_pos hl,ht,if_true,if_false,Bool.false_eq_true,List.nil_append,List.append_nil,List.cons_append] at hfs;have HFS:=zH hfs;clear hfs;obtain⟨ws,W0,W1,W2⟩:∃ ws:Int→Int→Int,ws (x.own:Int) 0=((wslot x.own 0:Nat):Int)∧ws (x.own:Int) 1=((wslot x.own 1:Nat):Int)∧ws (x.old:Int) 1=((wslot x.old 1:Nat):Int):=⟨fun a b=>if b=0 then ((wslot a.toNat 0:Nat):Int) else ((wslot a.toNat 1:Nat):Int),by simp,by simp,by simp⟩
         have SL:Hid (∀ a b:Int,((a=(x.own:Int)∧b=0)∨(a=(x.own:Int)∧b=1)∨(a=(x.old:Int)∧b=1))→∀ w,Calls Tryz.prog 72 #[zu a,zi b] w fun e w'=>e=.returned (zi (ws a b))∧w=w'):=by
          rintro a b (⟨rfl,rfl⟩|⟨rfl,rfl⟩|⟨rfl,rfl⟩) w''
          · rw[W0];exact (HS.out x.own 0 (HO.out.1.resolve_left ho) (by omega) w'')
          · rw[W1];exact (HS.out x.own 1 (HO.out.1.resolve_left ho) (by omega) w'')
          · rw[W2];exact (HS.out x.old 1 (HO.out.2.1.resolve_left hl) (by omega) w'')
         have HW:=zH (zA W0 (zA W1 W2));clear W0 W1 W2;clear ho hl;rw[ht] at ce2 HC;clear ht;go_wp2_with (first|(go_at_call 72;refine (SL.out _ _ (by first|exact .inl ⟨rfl,rfl⟩|exact .inr (.inl ⟨rfl,rfl⟩)|exact .inr (.inr ⟨rfl,rfl⟩)) _).mono ?_;rintro e w' ⟨rfl,rfl⟩)|(refine wp_turn _ rfl _ _ rfl w2 (by assumption) _ _ _ _ rfl (by assumption) (by omega) _ _ _ rfl ?_;intro avl capl wl ql pl;obtain⟨ce0,ce1,ce2⟩:=HC.out wl pl))
         go_roundw
         case rel=>
          simp only[HW.out.1,HW.out.2.1,HW.out.2.2] at ql;refine⟨k+1,by have:=HO.out.2.2.1;omega,rfl,pl,avl,capl,?_,?_⟩
          · first|(rw[HFS.out,List.length_append,HM.out];done)|(rw[HFS.out,List.length_append,HM.out];rfl)
          · rw[HFS.out,List.length_append,HM.out,trnCs_append,HXS.out];simp only[List.append_assoc,List.cons_append,List.nil_append] at ql;exact ql
         case measure=>have:=HO.out.2.2.1;simp[intOf];omega
       · have e1:((x.old:Int)==0)=true:=by simp;omega
         have e2:((x.old:Int) !=0)=false:=by simp;omega
         have e3:((x.old:Int)=0)=True:=by simp;omega
         have hfs:=HO.out.2.2.2;simp only[if_pos ho,if_neg hl,ht,if_true,if_false,Bool.false_eq_true,List.nil_append,List.append_nil,List.cons_append] at hfs;have HFS:=zH hfs;clear hfs;obtain⟨ws,W0,W1,W2⟩:∃ ws:Int→Int→Int,ws (x.own:Int) 0=((wslot x.own 0:Nat):Int)∧ws (x.own:Int) 1=((wslot x.own 1:Nat):Int)∧ws (x.old:Int) 1=((wslot x.old 1:Nat):Int):=⟨fun a b=>if b=0 then ((wslot a.toNat 0:Nat):Int) else ((wslot a.toNat 1:Nat):Int),by simp,by simp,by simp⟩
         have SL:Hid (∀ a b:Int,((a=(x.own:Int)∧b=0)∨(a=(x.own:Int)∧b=1)∨False)→∀ w,Calls Tryz.prog 72 #[zu a,zi b] w fun e w'=>e=.returned (zi (ws a b))∧w=w'):=by
          rintro a b (⟨rfl,rfl⟩|⟨rfl,rfl⟩|h) w''
          · rw[W0];exact (HS.out x.own 0 (HO.out.1.resolve_left ho) (by omega) w'')
          · rw[W1];exact (HS.out x.own 1 (HO.out.1.resolve_left ho) (by omega) w'')
          · exact h.elim
         have HW:=zH (zA W0 (zA W1 W2));clear W0 W1 W2;clear ho hl;rw[ht] at ce2 HC;clear ht;go_wp2_with (first|(go_at_call 72;refine (SL.out _ _ (by first|exact .inl ⟨rfl,rfl⟩|exact .inr (.inl ⟨rfl,rfl⟩)|exact .inr (.inr ⟨rfl,rfl⟩)) _).mono ?_;rintro e w' ⟨rfl,rfl⟩)|(refine wp_turn _ rfl _ _ rfl w2 (by assumption) _ _ _ _ rfl (by assumption) (by omega) _ _ _ rfl ?_;intro avl capl wl ql pl;obtain⟨ce0,ce1,ce2⟩:=HC.out wl pl))
         go_roundw
         case rel=>
          simp only[HW.out.1,HW.out.2.1,HW.out.2.2] at ql;refine⟨k+1,by have:=HO.out.2.2.1;omega,rfl,pl,avl,capl,?_,?_⟩
          · first|(rw[HFS.out,List.length_append,HM.out];done)|(rw[HFS.out,List.length_append,HM.out];rfl)
          · rw[HFS.out,List.length_append,HM.out,trnCs_append,HXS.out];simp only[List.append_assoc,List.cons_append,List.nil_append] at ql;exact ql
         case measure=>have:=HO.out.2.2.1;simp[intOf];omega
    · have d1:((x.own:Int)==0)=true:=by simp;omega
      have d2:((x.own:Int) !=0)=false:=by simp;omega
      have d3:((x.own:Int)=0)=True:=by simp;omega
      by_cases hl:x.old≠0
      · have e1:((x.old:Int)==0)=false:=by simp;omega
        have e2:((x.old:Int) !=0)=true:=by simp;omega
        have e3:((x.old:Int)=0)=False:=by simp;omega
        have hfs:=HO.out.2.2.2;simp only[if_neg ho,if_pos hl,List.nil_append,List.append_nil,List.cons_append] at hfs;have HFS:=zH hfs;clear hfs;obtain⟨ws,W0,W1,W2⟩:∃ ws:Int→Int→Int,ws (x.own:Int) 0=((wslot x.own 0:Nat):Int)∧ws (x.own:Int) 1=((wslot x.own 1:Nat):Int)∧ws (x.old:Int) 1=((wslot x.old 1:Nat):Int):=⟨fun a b=>if b=0 then ((wslot a.toNat 0:Nat):Int) else ((wslot a.toNat 1:Nat):Int),by simp,by simp,by simp⟩
        have SL:Hid (∀ a b:Int,(False∨False∨(a=(x.old:Int)∧b=1))→∀ w,Calls Tryz.prog 72 #[zu a,zi b] w fun e w'=>e=.returned (zi (ws a b))∧w=w'):=by
         rintro a b (h|h|⟨rfl,rfl⟩) w''
         · exact h.elim
         · exact h.elim
         · rw[W2];exact (HS.out x.old 1 (HO.out.2.1.resolve_left hl) (by omega) w'')
        have HW:=zH (zA W0 (zA W1 W2));clear W0 W1 W2;clear ho hl;go_wp2_with (first|(go_at_call 72;refine (SL.out _ _ (by first|exact .inl ⟨rfl,rfl⟩|exact .inr (.inl ⟨rfl,rfl⟩)|exact .inr (.inr ⟨rfl,rfl⟩)) _).mono ?_;rintro e w' ⟨rfl,rfl⟩)|(refine wp_turn _ rfl _ _ rfl w2 (by assumption) _ _ _ _ rfl (by assumption) (by omega) _ _ _ rfl ?_;intro avl capl wl ql pl;obtain⟨ce0,ce1,ce2⟩:=HC.out wl pl))
        go_roundw
        case rel=>
         simp only[HW.out.1,HW.out.2.1,HW.out.2.2] at ql;refine⟨k+1,by have:=HO.out.2.2.1;omega,rfl,pl,avl,capl,?_,?_⟩
         · first|(rw[HFS.out,List.length_append,HM.out];done)|(rw[HFS.out,List.length_append,HM.out];rfl)
         · rw[HFS.out,List.length_append,HM.out,trnCs_append,HXS.out];exact ql
        case measure=>have:=HO.out.2.2.1;simp[intOf];omega
      · have e1:((x.old:Int)==0)=true:=by simp;omega
        have e2:((x.old:Int) !=0)=false:=by simp;omega
        have e3:((x.old:Int)=0)=True:=by simp;omega
        have hfs:=HO.out.2.2.2;simp only[if_neg ho,if_neg hl,List.nil_append,List.append_nil,List.cons_append] at hfs;have HFS:=zH hfs;clear hfs;clear ho hl;go_wp2_with fail
        go_roundw
        case rel=>
         refine⟨k+1,by have:=HO.out.2.2.1;omega,rfl,hb,av,cap,?_,?_⟩
         · first|(rw[HFS.out,HM.out];done)|(rw[HFS.out,HM.out];rfl)
         · rw[HFS.out,HM.out,HXS.out];exact hown
        case measure=>have:=HO.out.2.2.1;simp[intOf];omega
  · obtain rfl:k=t.keys.length:=by omega
    rw[List.take_length] at hown ⊢;obtain⟨x0,x1,x2,x4,x7,x6,_⟩:=HB2.out A2 w2 H2.out.1 H2.out.2.1 H2.out.2.2.1 H2.out.2.2.2.1 wr hb;have HE:=zH (zA (HTU.out A2 w2 H2.out.1 H2.out.2.2.1 wr av _ cap hb hown) (Grow.below (L:=A2.L) hb));clear hown hb hlt hk hm0;generalize (t.keys.flatMap (cTurn t)).length=m at*;go_wp2_with (go_at_call 120;refine HE.out.1.mono ?_;rintro e w4 ⟨A3,v,rfl,p1,p2,p3,p4⟩);go_ret;exact⟨A3,v,rfl,p1,(H2.out.2.1.trans HE.out.2).trans p2,H2.out.2.2.1.trans p3,p4⟩
end Go.Proofs.YtpkenfnmkpmapaaGreat.Em
