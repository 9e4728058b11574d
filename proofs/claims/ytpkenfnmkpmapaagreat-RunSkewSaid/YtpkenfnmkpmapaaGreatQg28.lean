import Derived.Test.YtpkenfnmkpmapaaGreatQg26
import Derived.Test.YtpkenfnmkpmapaaGreatQg27
namespace Go.Proofs.YtpkenfnmkpmapaaGreat.Em
open Go.ChangeShapes Go.WideShapes Go.ChangeAt Go.RowKit En
set_option linter.unusedVariables false
set_option linter.unusedSimpArgs false
set_option maxRecDepth 100000
set_option maxHeartbeats 1600000
theorem infoIn:(Tryz.prog.info? 3).map (fun i=>(i.zero,i.size,i.bytes))=some (some (zi 0),1,8):=by kernel_rfl
def ksV (l:List Nat):List Value:=l.map fun (k:Nat)=>Value.int .i64 (k:Int)
theorem againL_drop:∀ (ops:List (En.Op×Res)) (view:List (Nat×Nat)) (wl:List Nat) (m:Nat) (x:En.Op×Res),ops[m]? =some x→againL view (ops.drop m) wl=true→((x.1.kind=1→x.2.e=0→x.1.key ∉ wl→(findP view x.1.key).2=true∧(findP view x.1.key).1=x.2.value)∧againL view (ops.drop (m+1)) (if writesP x then wl++[x.1.key] else wl)=true):=fun ops view wl m x hx h=>by
 obtain⟨h1,h2⟩:=List.getElem?_eq_some_iff.1 hx;rw[List.drop_eq_getElem_cons h1,h2] at h;unfold againL at h;rw[Bool.and_eq_true] at h;refine⟨fun a b c=>?_,h.2⟩;have:=h.1;rw[if_pos ⟨a,b,c⟩] at this
 simpa using this
theorem repeatD_any {w:World} {vd:Value} {l:List Dq} (h:HD w vd l) {i:Nat} {d:Dq} (hi:l[i]? =some d) (hs:d.state=3) (hh:repeatD l i=true):Calls Tryz.prog 51 #[vd,zi ((i+1:Nat):Int)] w fun e w'=>e=.returned (.bool true)∧Below w.heap.size w w':=by
 unfold repeatD at hh;rw[show l.getD i default=d by rw[List.getD_eq_getElem?_getD,hi];rfl,Bool.and_eq_true] at hh;obtain⟨hh1,hh2⟩:=hh;have hil:i<l.length:=(List.getElem?_eq_some_iff.1 hi).1;have hn:=h.n;obtain⟨hb1,he1,ho,-⟩:=h.tm d (List.mem_of_getElem? hi);have HHO:=zH (h.holdsD hi hb1 hh1);have HBF:Hid (∀ w',Calls Tryz.prog 79 #[zu (d.end_:Int)] w' fun e w9=>e=.returned (zu ((d.end_ - 1:Nat):Int))∧w'=w9):=zH fun w'=>beforeD_any w' d.end_ he1
 have HST:Hid (∀ w',Below w.heap.size w w'→Calls Tryz.prog 75 #[vd,zu ((d.end_ - 1:Nat):Int),zi (i:Int)] w' fun e w9=>∃ av n cv,e=.returned (.slice av n cv)∧PR w9 (.slice av n cv) (stateD l (d.end_ - 1) i)∧n=(stateD l (d.end_ - 1) i).length∧n≤900000∧Below w'.heap.size w' w9):=zH fun w' hb=>stateD_any w' vd l (d.end_ - 1) i (i:Int) (h.m.below hb) hn (by omega) (fun j hj=>by omega) 900000 (by omega) h.un
 have HDN:=zH (h.doneD hi hs);have HDM:Hid (∀ w',Below w.heap.size w w'→HD w' vd l):=zH fun w' hb=>h.below hb
 obtain⟨g,off,c,rfl,hg,-,-,-,X3,X4⟩:=h.cell hi;obtain⟨n,hnn⟩:∃ n,n=l.length:=⟨_,rfl⟩
 rw[←hnn] at HDN hil HHO HST HDM ⊢;obtain⟨z,hz⟩:∃ z:Int,z=((i+1:Nat):Int):=⟨_,rfl⟩
 rw[←hz] at HDN ⊢;obtain⟨ez,hez⟩:∃ ez:Int,ez=((d.end_ - 1:Nat):Int):=⟨_,rfl⟩
 rw[←hez] at HBF HST;generalize stateD l (d.end_ - 1) i=v0 at*;have c2:(0:Int)≤(i:Int):=by omega
 have c3:(i:Int)<(n:Int):=by omega
 have c4:((i:Int)<0)=False:=by simp<;>omega
 have c5:decide ((i:Int)<0)=false:=by simp<;>omega
 have HX4:Hid (∀ w',Below w.heap.size w w'→w'.cell? ⟨g,off+i*6+4,none⟩=some (zu (d.end_:Int))):=zH fun w' hb=>(hb.cell (p:=⟨g,off+i*6+4,none⟩) hg).trans X4
 have H0:=zH (zA hh2 (zA ho hi));clear h hi hs hh1 hh2 hil hn hb1 he1 ho hnn hz hg hez X4;go_enter Tryz.func51,Tryz.ntmps51;go_upto_region 4 with (first|(go_at_call 77;refine (HDN.out).mono ?_;rintro e w1 ⟨rfl,rfl⟩)|(go_at_call 78;refine (HHO.out).mono ?_;rintro e w2 ⟨rfl,hb2⟩;have HB2:=zH hb2;have X4:=HX4.out w2 hb2;clear hb2))
 clear X3;go_wp2_with (first|(go_at_call 79;refine (HBF.out _).mono ?_;rintro e w3 ⟨rfl,rfl⟩)|(go_at_call 75;refine (HST.out _ HB2.out).mono ?_;rintro e w3 ⟨vv,vp,vw,rfl,q1,q2,q3,q4⟩;have T0:=zH (zA q1 (zA q2 (zA q3 (HB2.out.trans (q4.mono HB2.out.size)))));clear q1 q2 q3 q4));clear X4
 go_loopw [7,8] (fun wv i wr=>∃ (mm:Nat) (wl:List Nat) (wa:Option Addr) (wc:Nat),i=zi (mm:Int)∧mm≤d.ops.length∧wv=.slice wa wl.length wc∧wr.ownsRow w3.heap.size 3 1 wv wl.length (ksV wl)∧wl.length≤mm∧againL v0 (d.ops.drop mm) wl=true∧Below w3.heap.size w3 wr) (fun _ i _=>d.ops.length - (intOf i).toNat)
 case atStart=>exact⟨0,[],none,0,rfl,Nat.zero_le _,rfl,World.ownsRow_nil _ _ _ _,Nat.le_refl _,H0.out.1,Below.refl _ _⟩
 case round=>
  rename World=>wq
  obtain⟨mm,wl,wa,wc,rfl,hmm,rfl,hown,hwm,hag,hb⟩:=hrel;obtain⟨-,ho,hd⟩:=H0.out;have hbw:=T0.out.2.2.2.trans (hb.mono T0.out.2.2.2.size);obtain⟨-,g',off',ao,oc,hgg,hg,hj,hcm⟩:=(HDM.out wq hbw).m.one hd;simp only[Option.some.injEq,Addr.mk.injEq,and_true] at hgg;obtain⟨rfl,rfl⟩:=hgg;have D5:wq.cell? ⟨g,off+i*6+5,none⟩=some (.slice ao d.ops.length oc):=by have:=hj 5 (by omega);rw[Nat.add_assoc];exact this
  obtain⟨on,hon⟩:∃ on,on=d.ops.length:=⟨_,rfl⟩
  rw[←hon] at D5 hmm ho;obtain⟨wn,hwn⟩:∃ wn,wn=wl.length:=⟨_,rfl⟩
  rw[←hwn] at hown hwm ⊢;have n3:IntKind.i64.wrap ((mm:Int)+1)=(mm:Int)+1:=by rw[IntKind.wrap_i64];omega
  by_cases hlt:mm<on
  · obtain⟨x,hxm⟩:∃ x,d.ops[mm]? =some x:=⟨_,List.getElem?_eq_getElem (by omega)⟩
    obtain⟨-,g2,off2,va,vn,vc,rfl,hg2,hpx,hxj⟩:=hcm.one hxm;have Y0:wq.cell? ⟨g2,off2+mm*9,none⟩=some (zi (x.1.kind:Int)):=by have:=hxj 0 (by omega);rw[Nat.add_zero] at this;exact this
    have Y1:wq.cell? ⟨g2,off2+mm*9+1,none⟩=some (zi (x.1.key:Int)):=by have:=hxj 1 (by omega);rw[Nat.add_assoc];exact this
    have Y2:wq.cell? ⟨g2,off2+mm*9+2,none⟩=some (zi (x.1.hi:Int)):=by have:=hxj 2 (by omega);rw[Nat.add_assoc];exact this
    have Y3:wq.cell? ⟨g2,off2+mm*9+3,none⟩=some (zi (x.1.value:Int)):=by have:=hxj 3 (by omega);rw[Nat.add_assoc];exact this
    have Y4:wq.cell? ⟨g2,off2+mm*9+4,none⟩=some (zi (x.2.e:Int)):=by have:=hxj 4 (by omega);rw[Nat.add_assoc];exact this
    have Y5:wq.cell? ⟨g2,off2+mm*9+5,none⟩=some (zi (x.2.value:Int)):=by have:=hxj 5 (by omega);rw[Nat.add_assoc];exact this
    have Y6:wq.cell? ⟨g2,off2+mm*9+6,none⟩=some (.slice va vn vc):=by have:=hxj 6 (by omega);rw[Nat.add_assoc];exact this
    have Y7:wq.cell? ⟨g2,off2+mm*9+7,none⟩=some (zi (x.2.over:Int)):=by have:=hxj 7 (by omega);rw[Nat.add_assoc];exact this
    have Y8:wq.cell? ⟨g2,off2+mm*9+8,none⟩=some (zi (x.2.reason:Int)):=by have:=hxj 8 (by omega);rw[Nat.add_assoc];exact this
    have c0:((mm:Int)<(on:Int))=True:=by simp;omega
    have c1:(mm:Int)<(on:Int):=by omega
    have c6:(0:Int)≤(mm:Int):=by omega
    obtain⟨hfi,hag2⟩:=againL_drop _ _ _ _ x hxm hag;have HX:=zH (zA hfi (zA hag2 (zA hlt (zA hb (zA hon (zA hown (zA hwm (zA ho hwn))))))));clear hmm hown hwm hag hb ho hd hbw hg hj hcm hon hwn hlt hxm hg2 hpx hxj hfi hag2;go_upto_region 10 with fail
    have h4:=heap_alloc_new wq (.cells #[zi (x.1.kind:Int),zi (x.1.key:Int),zi (x.1.hi:Int),zi (x.1.value:Int),zi (x.2.e:Int),zi (x.2.value:Int),.slice va vn vc,zi (x.2.over:Int),zi (x.2.reason:Int)] 51);have hb4:Below wq.heap.size wq (wq.alloc (.cells #[zi (x.1.kind:Int),zi (x.1.key:Int),zi (x.1.hi:Int),zi (x.1.value:Int),zi (x.2.e:Int),zi (x.2.value:Int),.slice va vn vc,zi (x.2.over:Int),zi (x.2.reason:Int)] 51)):=(Below.refl _ _).alloc (Nat.le_refl _) _;have hsz4:(wq.alloc (.cells #[zi (x.1.kind:Int),zi (x.1.key:Int),zi (x.1.hi:Int),zi (x.1.value:Int),zi (x.2.e:Int),zi (x.2.value:Int),.slice va vn vc,zi (x.2.over:Int),zi (x.2.reason:Int)] 51)).heap.size=wq.heap.size+1:=by simp
    obtain⟨gb,hgb⟩:∃ gb,gb=wq.heap.size:=⟨_,rfl⟩
    have H4:=zH (zA h4 (zA hb4 (zA hsz4 hgb)));rw[←hgb];clear h4 hb4 hsz4 hgb Y0 Y1 Y2 Y3 Y4 Y5 Y6 Y7 Y8;generalize wq.alloc _=w4 at*;have HGB:Hid (∀ w',Below w4.heap.size w4 w'→w'.heap[gb]? =some (.cells #[zi (x.1.kind:Int),zi (x.1.key:Int),zi (x.1.hi:Int),zi (x.1.value:Int),zi (x.2.e:Int),zi (x.2.value:Int),.slice va vn vc,zi (x.2.over:Int),zi (x.2.reason:Int)] 51)):=zH fun w' hb'=>by
     have:=(hb'.block wq.heap.size (by rw[H4.out.2.2.1];omega)).trans H4.out.1;rw[H4.out.2.2.2];exact this
    have HOW:Hid (∀ w',Below w4.heap.size w4 w'→w'.ownsRow w3.heap.size 3 1 (.slice wa wn wc) wn (ksV wl)∧Below w3.heap.size w3 w'):=zH fun w' hb'=>by
     obtain⟨-,-,-,hb,-,hown,-⟩:=HX.out;have h5:Below wq.heap.size wq w':=H4.out.2.1.trans (hb'.mono H4.out.2.1.size);exact⟨Ow.own_below hown h5,hb.trans (h5.mono hb.size)⟩
    go_wp2
    go_loopw [10,11] (fun ow j wr=>Below w4.heap.size w4 wr∧∃ jj:Nat,j=zi (jj:Int)∧jj≤wn∧ow=.bool (decide (x.1.key∈wl.take jj))) (fun _ j _=>wn - (intOf j).toNat)
    case atStart=>exact⟨Below.refl _ _,0,rfl,Nat.zero_le _,by simp⟩
    case round=>
     rename World=>wr2
     obtain⟨hb2,jj,rfl,hjj,rfl⟩:=hrel
     by_cases hlt:jj<wn
     · have hwn:=HX.out.2.2.2.2.2.2.2.2
       obtain⟨wj,hwj⟩:∃ wj,wl[jj]? =some wj:=⟨_,List.getElem?_eq_getElem (by omega)⟩
       obtain⟨gw,cw,hv,-⟩:=own_head (HOW.out wr2 hb2).1 (by omega);simp only[Value.slice.injEq] at hv;obtain⟨rfl,_,rfl⟩:=hv;have HC:Hid (∀ w',Below wr2.heap.size wr2 w'→w'.cell? ⟨gw,jj,none⟩=some (zi (wj:Int))∧w'.cell? ⟨gb,1,none⟩=some (zi (x.1.key:Int))):=zH fun w' hb'=>by
        have h6:Below w4.heap.size w4 w':=hb2.trans (hb'.mono hb2.size);have h7:=(HOW.out w' h6).1;refine⟨?_,by rw[cell_of_row _ _ _ _ _ _ (HGB.out w' h6)];rfl⟩;have:=h7.cellAt jj (by omega);rw[this];unfold ksV;rw[List.getElem?_map,hwj];rfl
       have c7:((jj:Int)<(wn:Int))=True:=by simp;omega
       have c8:(jj:Int)<(wn:Int):=by omega
       have c9:(0:Int)≤(jj:Int):=by omega
       have n4:IntKind.i64.wrap ((jj:Int)+1)=(jj:Int)+1:=by have:=HX.out.2.2.2.2.2.2.1;have:=HX.out.2.2.2.2.2.2.2.1;have:=HX.out.2.2.1;rw[IntKind.wrap_i64];omega
       have htk:x.1.key∈wl.take (jj+1)↔(x.1.key∈wl.take jj∨wj=x.1.key):=by
        rw[List.take_add_one,hwj];simp[eq_comm]
       have HB2:=zH (zA hb2 hlt)
       by_cases hin:x.1.key∈wl.take jj
       · have hd1:decide (x.1.key∈wl.take jj)=true:=decide_eq_true hin
         have HT:=zH (show decide (x.1.key∈wl.take (jj+1))=true from decide_eq_true (htk.2 (.inl hin)));rw[hd1];clear hd1 hin htk hwj hlt hb2 hjj hwn;go_upto_region 14 with fail
         refine wp_region_held_drew (S:=fun w'=>w'.cell? ⟨gw,jj,none⟩=some (zi (wj:Int))∧w'.cell? ⟨gb,1,none⟩=some (zi (x.1.key:Int))) (by kernel_rfl) ?_ (fun hHeld=>?_)
         · (try dsimp only);exact HC.out _ ((Below.refl _ _).drew)
         refine zqt (i:=0) rfl hHeld ?_
         (try simp only[zqa,zqb,zqc,Act.put,zqd,zqe,zqf])
         refine zqt (i:=1) rfl hHeld ?_
         (try simp only[zqa,zqb,zqc,Act.put,zqd,zqe,zqf])
         refine wpAnyH_take (i:=2) (v:=undef) rfl (by kernel_rfl) (by kernel_rfl) (by kernel_rfl) (fun _ _ _ h=>h) (Or.inr ⟨by rfl,rfl⟩) hHeld ?_
         (try simp only[zqa,zqb,zqc,Act.put,zqd,zqe,zqf])
         refine wpAnyH_take (i:=3) (v:=undef) rfl (by kernel_rfl) (by kernel_rfl) (by kernel_rfl) (fun _ _ _ h=>h) (Or.inr ⟨by rfl,rfl⟩) hHeld ?_
         (try simp only[zqa,zqb,zqc,Act.put,zqd,zqe,zqf])
         refine wpAnyH_take (i:=4) (v:=undef) rfl (by kernel_rfl) (by kernel_rfl) (by kernel_rfl) (fun _ _ _ h=>h) (Or.inr ⟨by rfl,rfl⟩) hHeld ?_
         (try simp only[zqa,zqb,zqc,Act.put,zqd,zqe,zqf])
         refine wpAnyH_take (i:=5) (v:=undef) rfl (by kernel_rfl) (by kernel_rfl) (by kernel_rfl) (fun _ _ _ h=>h) (Or.inr ⟨by rfl,rfl⟩) hHeld ?_
         (try simp only[zqa,zqb,zqc,Act.put,zqd,zqe,zqf])
         refine wpAnyH_take (i:=6) (v:=undef) rfl (by kernel_rfl) (by kernel_rfl) (by kernel_rfl) (fun _ _ _ h=>h) (Or.inr ⟨by rfl,rfl⟩) hHeld ?_
         (try simp only[zqa,zqb,zqc,Act.put,zqd,zqe,zqf])
         refine wpAnyH_take (i:=7) (v:=undef) rfl (by kernel_rfl) (by kernel_rfl) (by kernel_rfl) (fun _ _ _ h=>h) (Or.inr ⟨by rfl,rfl⟩) hHeld ?_
         (try simp only[zqa,zqb,zqc,Act.put,zqd,zqe,zqf])
         refine wpAnyH_take (i:=8) (v:=undef) rfl (by kernel_rfl) (by kernel_rfl) (by kernel_rfl) (fun _ _ _ h=>h) (Or.inr ⟨by rfl,rfl⟩) hHeld ?_
         (try simp only[zqa,zqb,zqc,Act.put,zqd,zqe,zqf])
         refine wpAnyH_take (i:=9) (v:=undef) rfl (by kernel_rfl) (by kernel_rfl) (by kernel_rfl) (fun _ _ _ h=>h) (Or.inr ⟨by rfl,rfl⟩) hHeld ?_
         (try simp only[zqa,zqb,zqc,Act.put,zqd,zqe,zqf])
         refine zqt (i:=10) rfl hHeld ?_
         (try simp only[zqa,zqb,zqc,Act.put,zqd,zqe,zqf])
         refine zqt (i:=11) rfl hHeld ?_
         (try simp only[zqa,zqb,zqc,Act.put,zqd,zqe,zqf])
         refine wpAnyH_done (by kernel_rfl) ?_ _;go_wp2
         go_roundw
         case rel=>exact⟨HB2.out.1.drew,jj+1,rfl,by have:=HB2.out.2;omega,by rw[HT.out]⟩
         case measure=>have:=HB2.out;simp[intOf];omega
       · have hd1:decide (x.1.key∈wl.take jj)=false:=decide_eq_false hin
         rw[hd1]
         by_cases heq:wj=x.1.key
         · have HT:=zH (show decide (x.1.key∈wl.take (jj+1))=true from decide_eq_true (htk.2 (.inr heq)))
           have e1:((wj:Int)=(x.1.key:Int))=True:=by simp[heq]
           have e2:((wj:Int)==(x.1.key:Int))=true:=by simp[heq]
           have e3:decide ((wj:Int)=(x.1.key:Int))=true:=by simp[heq]
           have e4:(wj=x.1.key)=True:=by simp[heq]
           clear hd1 hin htk hwj hlt hb2 hjj hwn heq;go_upto_region 14 with fail
           refine wp_region_held_drew (S:=fun w'=>w'.cell? ⟨gw,jj,none⟩=some (zi (wj:Int))∧w'.cell? ⟨gb,1,none⟩=some (zi (x.1.key:Int))) (by kernel_rfl) ?_ (fun hHeld=>?_)
           · (try dsimp only);exact HC.out _ ((Below.refl _ _).drew)
           refine zqt (i:=0) rfl hHeld ?_
           (try simp only[zqa,zqb,zqc,Act.put,zqd,zqe,zqf])
           refine zqt (i:=1) rfl hHeld ?_
           (try simp only[zqa,zqb,zqc,Act.put,zqd,zqe,zqf])
           refine zqt (i:=2) rfl hHeld ?_
           (try simp only[zqa,zqb,zqc,Act.put,zqd,zqe,zqf])
           refine zqt (i:=3) rfl hHeld ?_
           (try simp only[zqa,zqb,zqc,Act.put,zqd,zqe,zqf])
           refine zqt (i:=4) rfl hHeld ?_
           (try simp only[zqa,zqb,zqc,Act.put,zqd,zqe,zqf])
           refine zqt (i:=5) rfl hHeld ?_
           (try simp only[zqa,zqb,zqc,Act.put,zqd,zqe,zqf])
           refine zqt (i:=6) rfl hHeld ?_
           (try simp only[zqa,zqb,zqc,Act.put,zqd,zqe,zqf])
           refine zqt (i:=7) rfl hHeld ?_
           (try simp only[zqa,zqb,zqc,Act.put,zqd,zqe,zqf])
           refine zqt (i:=8) rfl hHeld ?_
           (try simp only[zqa,zqb,zqc,Act.put,zqd,zqe,zqf])
           refine zqt (i:=9) rfl hHeld ?_
           (try simp only[zqa,zqb,zqc,Act.put,zqd,zqe,zqf])
           refine zqt (i:=10) rfl hHeld ?_
           (try simp only[zqa,zqb,zqc,Act.put,zqd,zqe,zqf])
           refine zqt (i:=11) rfl hHeld ?_
           (try simp only[zqa,zqb,zqc,Act.put,zqd,zqe,zqf])
           refine wpAnyH_done (by kernel_rfl) ?_ _;go_wp2
           go_roundw
           case rel=>exact⟨HB2.out.1.drew,jj+1,rfl,by have:=HB2.out.2;omega,by rw[HT.out]⟩
           case measure=>have:=HB2.out;simp[intOf];omega
         · have HT:=zH (show decide (x.1.key∈wl.take (jj+1))=false from decide_eq_false (fun x=>(htk.1 x).elim hin heq))
           have e1:((wj:Int)=(x.1.key:Int))=False:=by simp;omega
           have e2:((wj:Int)==(x.1.key:Int))=false:=by simp;omega
           have e3:decide ((wj:Int)=(x.1.key:Int))=false:=by simp;omega
           have e4:(wj=x.1.key)=False:=by simp[heq]
           clear hd1 hin htk hwj hlt hb2 hjj hwn heq;go_upto_region 14 with fail
           refine wp_region_held_drew (S:=fun w'=>w'.cell? ⟨gw,jj,none⟩=some (zi (wj:Int))∧w'.cell? ⟨gb,1,none⟩=some (zi (x.1.key:Int))) (by kernel_rfl) ?_ (fun hHeld=>?_)
           · (try dsimp only);exact HC.out _ ((Below.refl _ _).drew)
           refine zqt (i:=0) rfl hHeld ?_
           (try simp only[zqa,zqb,zqc,Act.put,zqd,zqe,zqf])
           refine zqt (i:=1) rfl hHeld ?_
           (try simp only[zqa,zqb,zqc,Act.put,zqd,zqe,zqf])
           refine zqt (i:=2) rfl hHeld ?_
           (try simp only[zqa,zqb,zqc,Act.put,zqd,zqe,zqf])
           refine zqt (i:=3) rfl hHeld ?_
           (try simp only[zqa,zqb,zqc,Act.put,zqd,zqe,zqf])
           refine zqt (i:=4) rfl hHeld ?_
           (try simp only[zqa,zqb,zqc,Act.put,zqd,zqe,zqf])
           refine zqt (i:=5) rfl hHeld ?_
           (try simp only[zqa,zqb,zqc,Act.put,zqd,zqe,zqf])
           refine zqt (i:=6) rfl hHeld ?_
           (try simp only[zqa,zqb,zqc,Act.put,zqd,zqe,zqf])
           refine zqt (i:=7) rfl hHeld ?_
           (try simp only[zqa,zqb,zqc,Act.put,zqd,zqe,zqf])
           refine zqt (i:=8) rfl hHeld ?_
           (try simp only[zqa,zqb,zqc,Act.put,zqd,zqe,zqf])
           refine zqt (i:=9) rfl hHeld ?_
           (try simp only[zqa,zqb,zqc,Act.put,zqd,zqe,zqf])
           refine zqt (i:=10) rfl hHeld ?_
           (try simp only[zqa,zqb,zqc,Act.put,zqd,zqe,zqf])
           refine zqt (i:=11) rfl hHeld ?_
           (try simp only[zqa,zqb,zqc,Act.put,zqd,zqe,zqf])
           refine wpAnyH_done (by kernel_rfl) ?_ _;go_wp2
           go_roundw
           case rel=>exact⟨HB2.out.1.drew,jj+1,rfl,by have:=HB2.out.2;omega,by rw[HT.out]⟩
           case measure=>have:=HB2.out;simp[intOf];omega
     · obtain rfl:jj=wn:=by omega
       have c7:((jj:Int)<(jj:Int))=False:=by simp
       have htw:wl.take jj=wl:=by rw[HX.out.2.2.2.2.2.2.2.2,List.take_length]
       rw[htw];have Zs:=HGB.out wr2 hb2;have Z0:wr2.cell? ⟨gb,0,none⟩=some (zi (x.1.kind:Int)):=by rw[cell_of_row _ _ _ _ _ _ Zs];rfl
       have Z1:wr2.cell? ⟨gb,1,none⟩=some (zi (x.1.key:Int)):=by rw[cell_of_row _ _ _ _ _ _ Zs];rfl
       have Z2:wr2.cell? ⟨gb,2,none⟩=some (zi (x.1.hi:Int)):=by rw[cell_of_row _ _ _ _ _ _ Zs];rfl
       have Z3:wr2.cell? ⟨gb,3,none⟩=some (zi (x.1.value:Int)):=by rw[cell_of_row _ _ _ _ _ _ Zs];rfl
       have Z4:wr2.cell? ⟨gb,4,none⟩=some (zi (x.2.e:Int)):=by rw[cell_of_row _ _ _ _ _ _ Zs];rfl
       have Z5:wr2.cell? ⟨gb,5,none⟩=some (zi (x.2.value:Int)):=by rw[cell_of_row _ _ _ _ _ _ Zs];rfl
       have Z6:wr2.cell? ⟨gb,6,none⟩=some (.slice va vn vc):=by rw[cell_of_row _ _ _ _ _ _ Zs];rfl
       have Z7:wr2.cell? ⟨gb,7,none⟩=some (zi (x.2.over:Int)):=by rw[cell_of_row _ _ _ _ _ _ Zs];rfl
       have Z8:wr2.cell? ⟨gb,8,none⟩=some (zi (x.2.reason:Int)):=by rw[cell_of_row _ _ _ _ _ _ Zs];rfl
       have HFI:Hid (Calls Tryz.prog 80 #[.slice vv vp vw,zi (x.1.key:Int)] wr2 fun e w9=>e=.returned (.tuple #[zi ((findP v0 x.1.key).1:Int),.bool (findP v0 x.1.key).2])∧wr2=w9):=zH (findD_any wr2 _ v0 x.1.key (T0.out.1.below (HOW.out wr2 hb2).2) (by have:=T0.out.2.1;have:=T0.out.2.2.1;omega));have HWR:Hid (∀ w',Calls Tryz.prog 70 #[.agg #[zi (x.1.kind:Int),zi (x.1.key:Int),zi (x.1.hi:Int),zi (x.1.value:Int),zi (x.2.e:Int),zi (x.2.value:Int),.slice va vn vc,zi (x.2.over:Int),zi (x.2.reason:Int)]] w' fun e w9=>e=.returned (.bool (writesP x))∧Below w'.heap.size w' w9):=zH fun w'=>writesD_any w' va vn vc x
       have HB2:=zH hb2;obtain⟨ii,hii,hz0,hz1,hz2⟩:=info_parts infoIn;have hfi:=HX.out.1;clear hb2 hjj hlt htw Zs
       by_cases k1:x.1.kind=1
       rotate_left
       · have a1:((x.1.kind:Int)=1)=False:=by first|(simp;done)|(simp;omega)|omega|(simp_all;done)
         have a2:((x.1.kind:Int)==1)=false:=by first|(simp;done)|(simp;omega)|omega|(simp_all;done)
         have a3:((x.1.kind:Int) !=1)=true:=by first|(simp;done)|(simp;omega)|omega|(simp_all;done)
         have a4:decide ((x.1.kind:Int)=1)=false:=by first|(simp;done)|(simp;omega)|omega|(simp_all;done)
         clear hfi k1
         cases hw:writesP x with
         |true=>
          rw[hw] at HWR;have HW:=zH hw;clear hw;go_wp2_with (first|(go_at_call 70;refine (HWR.out _).mono ?_;rintro e w6 ⟨rfl,hb6⟩;have HB6:=zH (HB2.out.trans (hb6.mono HB2.out.size));have Z1':w6.cell? ⟨gb,1,none⟩=some (zi (x.1.key:Int)):=(by rw[cell_of_row _ _ _ _ _ _ (HGB.out w6 HB6.out)];rfl);clear hb6)|(refine Ow.wpList_append_to _ rfl (.tmp 107) (.tmp 111) 23 rfl w3.heap.size 3 ii _ 1 8 Tryz.underlying23 hii hz0 hz1 hz2 rfl (by decide) (.slice wa jj wc) jj (ksV wl) rfl (own_below' (HOW.out w6 HB6.out).1 _) ⟨w6.heap.size,0,none⟩ 1 1 (by omega) [zi (x.1.key:Int)] rfl rfl (fun j u hu=>Ow.new_row w6 [zi (x.1.key:Int)] _ w6.heap.size (by simp) j u hu) (by intro u hu;simp at hu;subst hu;rfl) (by have:=HX.out.2.2.2.2.2.2.1;have:=HX.out.2.2.2.2.2.2.2.1;have:=HX.out.2.2.1;unfold maxLen;omega) (by have:=HX.out.2.2.2.2.2.2.1;have:=HX.out.2.2.2.2.2.2.2.1;have:=HX.out.2.2.1;omega) (by have:=(HOW.out w6 HB6.out).2.size;simp;omega) ?_;intro v' w7 q1 q2 q3;obtain⟨a7,c7',rfl,_⟩:=Ow.own_form q1;have T7:=zH (zA q1 (((HOW.out w6 HB6.out).2.alloc (HOW.out w6 HB6.out).2.size _).grown q2 (by have:=(HOW.out w6 HB6.out).2.size;simp;omega) (fun g hg=>((HOW.out w6 HB6.out).1.lt g hg).1)));clear q1 q2 q3))
          go_roundw
          case rel=>
           obtain⟨-,hag2,hlt,hb,hon,hown,hwm,ho,hwn⟩:=HX.out;rw[HW.out] at hag2;have e7:(wl++[x.1.key]).length=jj+1:=by rw[List.length_append,←hwn];rfl
           refine⟨mm+1,wl++[x.1.key],a7,c7',rfl,by omega,by rw[e7],?_,by rw[e7];omega,hag2,T7.out.2⟩;have h:=T7.out.1;rw[e7];have e8:ksV (wl++[x.1.key])=ksV wl++[zi (x.1.key:Int)]:=by unfold ksV;rw[List.map_append];rfl
           rw[e8];exact h
          case measure=>have:=HX.out.2.2;simp[intOf];omega
         |false=>
          rw[hw] at HWR;have HW:=zH hw;clear hw;go_wp2_with (first|(go_at_call 70;refine (HWR.out _).mono ?_;rintro e w6 ⟨rfl,hb6⟩;have HB6:=zH (HB2.out.trans (hb6.mono HB2.out.size));have Z1':w6.cell? ⟨gb,1,none⟩=some (zi (x.1.key:Int)):=(by rw[cell_of_row _ _ _ _ _ _ (HGB.out w6 HB6.out)];rfl);clear hb6))
          go_roundw
          case rel=>
           obtain⟨-,hag2,hlt,hb,hon,hown,hwm,ho,hwn⟩:=HX.out;rw[HW.out] at hag2;exact⟨mm+1,wl,_,_,rfl,by omega,by rw[←hwn],by rw[←hwn];exact (HOW.out w6 HB6.out).1,by omega,hag2,(HOW.out w6 HB6.out).2⟩
          case measure=>have:=HX.out.2.2;simp[intOf];omega
       have a1:((x.1.kind:Int)=1)=True:=by first|(simp;done)|(simp;omega)|omega|(simp_all;done)
       have a2:((x.1.kind:Int)==1)=true:=by first|(simp;done)|(simp;omega)|omega|(simp_all;done)
       have a3:((x.1.kind:Int) !=1)=false:=by first|(simp;done)|(simp;omega)|omega|(simp_all;done)
       have a4:decide ((x.1.kind:Int)=1)=true:=by first|(simp;done)|(simp;omega)|omega|(simp_all;done)
       by_cases e0:x.2.e=0
       rotate_left
       · have b1:((x.2.e:Int)=0)=False:=by first|(simp;done)|(simp;omega)|omega|(simp_all;done)
         have b2:((x.2.e:Int)==0)=false:=by first|(simp;done)|(simp;omega)|omega|(simp_all;done)
         have b3:((x.2.e:Int) !=0)=true:=by first|(simp;done)|(simp;omega)|omega|(simp_all;done)
         have b4:decide ((x.2.e:Int)=0)=false:=by first|(simp;done)|(simp;omega)|omega|(simp_all;done)
         clear hfi k1 e0
         cases hw:writesP x with
         |true=>
          rw[hw] at HWR;have HW:=zH hw;clear hw;go_wp2_with (first|(go_at_call 70;refine (HWR.out _).mono ?_;rintro e w6 ⟨rfl,hb6⟩;have HB6:=zH (HB2.out.trans (hb6.mono HB2.out.size));have Z1':w6.cell? ⟨gb,1,none⟩=some (zi (x.1.key:Int)):=(by rw[cell_of_row _ _ _ _ _ _ (HGB.out w6 HB6.out)];rfl);clear hb6)|(refine Ow.wpList_append_to _ rfl (.tmp 107) (.tmp 111) 23 rfl w3.heap.size 3 ii _ 1 8 Tryz.underlying23 hii hz0 hz1 hz2 rfl (by decide) (.slice wa jj wc) jj (ksV wl) rfl (own_below' (HOW.out w6 HB6.out).1 _) ⟨w6.heap.size,0,none⟩ 1 1 (by omega) [zi (x.1.key:Int)] rfl rfl (fun j u hu=>Ow.new_row w6 [zi (x.1.key:Int)] _ w6.heap.size (by simp) j u hu) (by intro u hu;simp at hu;subst hu;rfl) (by have:=HX.out.2.2.2.2.2.2.1;have:=HX.out.2.2.2.2.2.2.2.1;have:=HX.out.2.2.1;unfold maxLen;omega) (by have:=HX.out.2.2.2.2.2.2.1;have:=HX.out.2.2.2.2.2.2.2.1;have:=HX.out.2.2.1;omega) (by have:=(HOW.out w6 HB6.out).2.size;simp;omega) ?_;intro v' w7 q1 q2 q3;obtain⟨a7,c7',rfl,_⟩:=Ow.own_form q1;have T7:=zH (zA q1 (((HOW.out w6 HB6.out).2.alloc (HOW.out w6 HB6.out).2.size _).grown q2 (by have:=(HOW.out w6 HB6.out).2.size;simp;omega) (fun g hg=>((HOW.out w6 HB6.out).1.lt g hg).1)));clear q1 q2 q3))
          go_roundw
          case rel=>
           obtain⟨-,hag2,hlt,hb,hon,hown,hwm,ho,hwn⟩:=HX.out;rw[HW.out] at hag2;have e7:(wl++[x.1.key]).length=jj+1:=by rw[List.length_append,←hwn];rfl
           refine⟨mm+1,wl++[x.1.key],a7,c7',rfl,by omega,by rw[e7],?_,by rw[e7];omega,hag2,T7.out.2⟩;have h:=T7.out.1;rw[e7];have e8:ksV (wl++[x.1.key])=ksV wl++[zi (x.1.key:Int)]:=by unfold ksV;rw[List.map_append];rfl
           rw[e8];exact h
          case measure=>have:=HX.out.2.2;simp[intOf];omega
         |false=>
          rw[hw] at HWR;have HW:=zH hw;clear hw;go_wp2_with (first|(go_at_call 70;refine (HWR.out _).mono ?_;rintro e w6 ⟨rfl,hb6⟩;have HB6:=zH (HB2.out.trans (hb6.mono HB2.out.size));have Z1':w6.cell? ⟨gb,1,none⟩=some (zi (x.1.key:Int)):=(by rw[cell_of_row _ _ _ _ _ _ (HGB.out w6 HB6.out)];rfl);clear hb6))
          go_roundw
          case rel=>
           obtain⟨-,hag2,hlt,hb,hon,hown,hwm,ho,hwn⟩:=HX.out;rw[HW.out] at hag2;exact⟨mm+1,wl,_,_,rfl,by omega,by rw[←hwn],by rw[←hwn];exact (HOW.out w6 HB6.out).1,by omega,hag2,(HOW.out w6 HB6.out).2⟩
          case measure=>have:=HX.out.2.2;simp[intOf];omega
       have b1:((x.2.e:Int)=0)=True:=by first|(simp;done)|(simp;omega)|omega|(simp_all;done)
       have b2:((x.2.e:Int)==0)=true:=by first|(simp;done)|(simp;omega)|omega|(simp_all;done)
       have b3:((x.2.e:Int) !=0)=false:=by first|(simp;done)|(simp;omega)|omega|(simp_all;done)
       have b4:decide ((x.2.e:Int)=0)=true:=by first|(simp;done)|(simp;omega)|omega|(simp_all;done)
       by_cases hin:x.1.key∈wl
       · have hd1:decide (x.1.key∈wl)=true:=decide_eq_true hin
         rw[hd1];clear hfi k1 e0 hin hd1
         cases hw:writesP x with
         |true=>
          rw[hw] at HWR;have HW:=zH hw;clear hw;go_wp2_with (first|(go_at_call 70;refine (HWR.out _).mono ?_;rintro e w6 ⟨rfl,hb6⟩;have HB6:=zH (HB2.out.trans (hb6.mono HB2.out.size));have Z1':w6.cell? ⟨gb,1,none⟩=some (zi (x.1.key:Int)):=(by rw[cell_of_row _ _ _ _ _ _ (HGB.out w6 HB6.out)];rfl);clear hb6)|(refine Ow.wpList_append_to _ rfl (.tmp 107) (.tmp 111) 23 rfl w3.heap.size 3 ii _ 1 8 Tryz.underlying23 hii hz0 hz1 hz2 rfl (by decide) (.slice wa jj wc) jj (ksV wl) rfl (own_below' (HOW.out w6 HB6.out).1 _) ⟨w6.heap.size,0,none⟩ 1 1 (by omega) [zi (x.1.key:Int)] rfl rfl (fun j u hu=>Ow.new_row w6 [zi (x.1.key:Int)] _ w6.heap.size (by simp) j u hu) (by intro u hu;simp at hu;subst hu;rfl) (by have:=HX.out.2.2.2.2.2.2.1;have:=HX.out.2.2.2.2.2.2.2.1;have:=HX.out.2.2.1;unfold maxLen;omega) (by have:=HX.out.2.2.2.2.2.2.1;have:=HX.out.2.2.2.2.2.2.2.1;have:=HX.out.2.2.1;omega) (by have:=(HOW.out w6 HB6.out).2.size;simp;omega) ?_;intro v' w7 q1 q2 q3;obtain⟨a7,c7',rfl,_⟩:=Ow.own_form q1;have T7:=zH (zA q1 (((HOW.out w6 HB6.out).2.alloc (HOW.out w6 HB6.out).2.size _).grown q2 (by have:=(HOW.out w6 HB6.out).2.size;simp;omega) (fun g hg=>((HOW.out w6 HB6.out).1.lt g hg).1)));clear q1 q2 q3))
          go_roundw
          case rel=>
           obtain⟨-,hag2,hlt,hb,hon,hown,hwm,ho,hwn⟩:=HX.out;rw[HW.out] at hag2;have e7:(wl++[x.1.key]).length=jj+1:=by rw[List.length_append,←hwn];rfl
           refine⟨mm+1,wl++[x.1.key],a7,c7',rfl,by omega,by rw[e7],?_,by rw[e7];omega,hag2,T7.out.2⟩;have h:=T7.out.1;rw[e7];have e8:ksV (wl++[x.1.key])=ksV wl++[zi (x.1.key:Int)]:=by unfold ksV;rw[List.map_append];rfl
           rw[e8];exact h
          case measure=>have:=HX.out.2.2;simp[intOf];omega
         |false=>
          rw[hw] at HWR;have HW:=zH hw;clear hw;go_wp2_with (first|(go_at_call 70;refine (HWR.out _).mono ?_;rintro e w6 ⟨rfl,hb6⟩;have HB6:=zH (HB2.out.trans (hb6.mono HB2.out.size));have Z1':w6.cell? ⟨gb,1,none⟩=some (zi (x.1.key:Int)):=(by rw[cell_of_row _ _ _ _ _ _ (HGB.out w6 HB6.out)];rfl);clear hb6))
          go_roundw
          case rel=>
           obtain⟨-,hag2,hlt,hb,hon,hown,hwm,ho,hwn⟩:=HX.out;rw[HW.out] at hag2;exact⟨mm+1,wl,_,_,rfl,by omega,by rw[←hwn],by rw[←hwn];exact (HOW.out w6 HB6.out).1,by omega,hag2,(HOW.out w6 HB6.out).2⟩
          case measure=>have:=HX.out.2.2;simp[intOf];omega
       have hd1:decide (x.1.key∈wl)=false:=decide_eq_false hin;rw[hd1];obtain⟨f2,f1⟩:=hfi k1 e0 hin;rw[f2,f1] at HFI;clear hfi k1 e0 hin hd1 f1 f2
       cases hw:writesP x with
       |true=>
        rw[hw] at HWR;have HW:=zH hw;clear hw;go_wp2_with (first|(go_at_call 80;refine (HFI.out).mono ?_;rintro e w5 ⟨rfl,rfl⟩)|(go_at_call 70;refine (HWR.out _).mono ?_;rintro e w6 ⟨rfl,hb6⟩;have HB6:=zH (HB2.out.trans (hb6.mono HB2.out.size));have Z1':w6.cell? ⟨gb,1,none⟩=some (zi (x.1.key:Int)):=(by rw[cell_of_row _ _ _ _ _ _ (HGB.out w6 HB6.out)];rfl);clear hb6)|(refine Ow.wpList_append_to _ rfl (.tmp 107) (.tmp 111) 23 rfl w3.heap.size 3 ii _ 1 8 Tryz.underlying23 hii hz0 hz1 hz2 rfl (by decide) (.slice wa jj wc) jj (ksV wl) rfl (own_below' (HOW.out w6 HB6.out).1 _) ⟨w6.heap.size,0,none⟩ 1 1 (by omega) [zi (x.1.key:Int)] rfl rfl (fun j u hu=>Ow.new_row w6 [zi (x.1.key:Int)] _ w6.heap.size (by simp) j u hu) (by intro u hu;simp at hu;subst hu;rfl) (by have:=HX.out.2.2.2.2.2.2.1;have:=HX.out.2.2.2.2.2.2.2.1;have:=HX.out.2.2.1;unfold maxLen;omega) (by have:=HX.out.2.2.2.2.2.2.1;have:=HX.out.2.2.2.2.2.2.2.1;have:=HX.out.2.2.1;omega) (by have:=(HOW.out w6 HB6.out).2.size;simp;omega) ?_;intro v' w7 q1 q2 q3;obtain⟨a7,c7',rfl,_⟩:=Ow.own_form q1;have T7:=zH (zA q1 (((HOW.out w6 HB6.out).2.alloc (HOW.out w6 HB6.out).2.size _).grown q2 (by have:=(HOW.out w6 HB6.out).2.size;simp;omega) (fun g hg=>((HOW.out w6 HB6.out).1.lt g hg).1)));clear q1 q2 q3))
        go_roundw
        case rel=>
         obtain⟨-,hag2,hlt,hb,hon,hown,hwm,ho,hwn⟩:=HX.out;rw[HW.out] at hag2;have e7:(wl++[x.1.key]).length=jj+1:=by rw[List.length_append,←hwn];rfl
         refine⟨mm+1,wl++[x.1.key],a7,c7',rfl,by omega,by rw[e7],?_,by rw[e7];omega,hag2,T7.out.2⟩;have h:=T7.out.1;rw[e7];have e8:ksV (wl++[x.1.key])=ksV wl++[zi (x.1.key:Int)]:=by unfold ksV;rw[List.map_append];rfl
         rw[e8];exact h
        case measure=>have:=HX.out.2.2;simp[intOf];omega
       |false=>
        rw[hw] at HWR;have HW:=zH hw;clear hw;go_wp2_with (first|(go_at_call 80;refine (HFI.out).mono ?_;rintro e w5 ⟨rfl,rfl⟩)|(go_at_call 70;refine (HWR.out _).mono ?_;rintro e w6 ⟨rfl,hb6⟩;have HB6:=zH (HB2.out.trans (hb6.mono HB2.out.size));have Z1':w6.cell? ⟨gb,1,none⟩=some (zi (x.1.key:Int)):=(by rw[cell_of_row _ _ _ _ _ _ (HGB.out w6 HB6.out)];rfl);clear hb6))
        go_roundw
        case rel=>
         obtain⟨-,hag2,hlt,hb,hon,hown,hwm,ho,hwn⟩:=HX.out;rw[HW.out] at hag2;exact⟨mm+1,wl,_,_,rfl,by omega,by rw[←hwn],by rw[←hwn];exact (HOW.out w6 HB6.out).1,by omega,hag2,(HOW.out w6 HB6.out).2⟩
        case measure=>have:=HX.out.2.2;simp[intOf];omega
  · obtain rfl:mm=on:=by omega
    have c0:((mm:Int)<(mm:Int))=False:=by simp
    have HY:=zH hbw;clear hmm hown hwm hag hb ho hd hbw hg hj hcm hon hwn hlt;go_wp2;go_ret;exact⟨rfl,HY.out⟩
theorem holdsAll_any {w:World} {vd:Value} {l:List Dq} (h:HD w vd l) (hh:holdsD l=true):Calls Tryz.prog 29 #[vd] w fun e w'=>e=.returned (.tuple #[.bool true,zi 0])∧Below w.heap.size w w':=by
 have hall:∀ k d,l[k]? =some d→d.state=3→levelD l k=true∧l.getD k default=d:=fun k d hd hs=>by
  unfold holdsD at hh;rw[List.all_eq_true] at hh;have hg:l.getD k default=d:=by rw[List.getD_eq_getElem?_getD,hd];rfl
  have:=hh k (List.mem_range.2 (List.getElem?_eq_some_iff.1 hd).1);rw[hg,hs] at this;exact⟨by simpa using this,hg⟩
 have HAL:=zH hall;have HDM:Hid (∀ w',Below w.heap.size w w'→HD w' vd l):=zH fun w' hb=>h.below hb
 obtain⟨a,c,e1,-⟩:=h.m;subst e1;have hn:=h.n;obtain⟨n,hnn⟩:∃ n,n=l.length:=⟨_,rfl⟩
 rw[←hnn] at HDM hn ⊢;have H0:=zH (zA hnn hn);clear h hh hall hnn hn;go_enter Tryz.func29,Tryz.ntmps29;go_wp2
 go_loopw [4,5] (fun bd i wr=>bd=zi 0∧∃ k:Nat,i=zi (k:Int)∧k≤n∧Below w.heap.size w wr) (fun _ i _=>n - (intOf i).toNat)
 case atStart=>exact⟨rfl,0,rfl,Nat.zero_le _,Below.refl _ _⟩
 case round=>
  rename World=>wq
  obtain⟨rfl,k,rfl,hk,hb⟩:=hrel;obtain⟨hnn,hn⟩:=H0.out;have n3:IntKind.i64.wrap ((k:Int)+1)=(k:Int)+1:=by rw[IntKind.wrap_i64];omega
  by_cases hlt:k<n
  · obtain⟨d,hd⟩:∃ d,l[k]? =some d:=⟨_,List.getElem?_eq_getElem (by omega)⟩
    have hD:=HDM.out wq hb;obtain⟨g,off,c',hv,hg,X0,X1,X2,-,-⟩:=hD.cell hd;simp only[Value.slice.injEq] at hv;obtain⟨rfl,hnl,rfl⟩:=hv;clear hnl;rw[hD.id k d hd] at X0;have c0:((k:Int)<(n:Int))=True:=by simp;omega
    have c1:(k:Int)<(n:Int):=by omega
    have c2:(0:Int)≤(k:Int):=by omega
    have HX:=zH (zA hlt hb);have HDD:=zH (zA hD hd)
    by_cases hs:d.state=3
    rotate_left
    · have s1:((d.state:Int)=3)=False:=by first|(simp;done)|(simp;omega)|omega|(simp_all;done)
      have s2:((d.state:Int)==3)=false:=by first|(simp;done)|(simp;omega)|omega|(simp_all;done)
      have s3:((d.state:Int) !=3)=true:=by first|(simp;done)|(simp;omega)|omega|(simp_all;done)
      have s4:decide ((d.state:Int)=3)=false:=by first|(simp;done)|(simp;omega)|omega|(simp_all;done)
      clear hk hb hlt hD hd hg hs X0 X1 hnn hn;go_wp2
      go_roundw
      case rel=>exact⟨by first|trivial|rfl,k+1,rfl,by have:=HX.out.1;omega,HX.out.2⟩
      case measure=>have:=HX.out.1;simp[intOf];omega
    have s1:((d.state:Int)=3)=True:=by first|(simp;done)|(simp;omega)|omega|(simp_all;done)
    have s2:((d.state:Int)==3)=true:=by first|(simp;done)|(simp;omega)|omega|(simp_all;done)
    have s3:((d.state:Int) !=3)=false:=by first|(simp;done)|(simp;omega)|omega|(simp_all;done)
    have s4:decide ((d.state:Int)=3)=true:=by first|(simp;done)|(simp;omega)|omega|(simp_all;done)
    obtain⟨hlev,hgd⟩:=HAL.out k d hd hs;unfold levelD at hlev;rw[hgd] at hlev;have HC0:Hid (∀ w',Below wq.heap.size wq w'→w'.cell? ⟨g,off+k*6,none⟩=some (zi ((k+1:Nat):Int))):=zH fun w' hb'=>(hb'.cell (p:=⟨g,off+k*6,none⟩) hg).trans X0
    have HSN:Hid (snapD l k=true→Calls Tryz.prog 50 #[.slice (some ⟨g,off,none⟩) n c,zi ((k+1:Nat):Int)] wq fun e w'=>e=.returned (.bool true)∧Below wq.heap.size wq w'):=zH fun h=>by have:=snapshotD_any hD hd hs h;exact this
    have HRE:Hid (repeatD l k=true→Calls Tryz.prog 51 #[.slice (some ⟨g,off,none⟩) n c,zi ((k+1:Nat):Int)] wq fun e w'=>e=.returned (.bool true)∧Below wq.heap.size wq w'):=zH fun h=>by have:=repeatD_any hD hd hs h;exact this
    have HSE:Hid (serialD l k=true→∀ w',Below wq.heap.size wq w'→Calls Tryz.prog 52 #[.slice (some ⟨g,off,none⟩) n c,zi ((k+1:Nat):Int)] w' fun e w9=>e=.returned (.bool true)∧Below wq.heap.size wq w9):=zH fun h w' hb'=>by
     refine (serialD_any (hD.below hb') hd hs h).mono ?_;rintro e w9 ⟨h1,h2⟩;exact⟨h1,hb'.trans (h2.mono hb'.size)⟩
    obtain⟨z,hz⟩:∃ z:Int,z=((k+1:Nat):Int):=⟨_,rfl⟩
    rw[←hz] at X0 HC0 HSN HRE HSE;clear hk hb hlt hD hd hg hs hnn hn hz hgd HDD
    split at hlev
    · rename_i hl1
      rw[hl1] at X1;replace X1:wq.cell? ⟨g,off+k*6+1,none⟩=some (zi 1):=X1;have HCL:=zH (HSN.out hlev);clear hlev hl1;go_wp2_with (go_at_call 50;refine (HCL.out).mono ?_;rintro e w2 ⟨rfl,hb2⟩;have HB2:=zH hb2;clear hb2)
      go_roundw
      case rel=>exact⟨by first|trivial|rfl,k+1,rfl,by have:=HX.out.1;omega,HX.out.2.trans (HB2.out.mono HX.out.2.size)⟩
      case measure=>have:=HX.out.1;simp[intOf];omega
    · rename_i hl1
      rw[hl1] at X1;replace X1:wq.cell? ⟨g,off+k*6+1,none⟩=some (zi 2):=X1;have HCL:=zH (HRE.out hlev);clear hlev hl1;go_wp2_with (go_at_call 51;refine (HCL.out).mono ?_;rintro e w2 ⟨rfl,hb2⟩;have HB2:=zH hb2;clear hb2)
      go_roundw
      case rel=>exact⟨by first|trivial|rfl,k+1,rfl,by have:=HX.out.1;omega,HX.out.2.trans (HB2.out.mono HX.out.2.size)⟩
      case measure=>have:=HX.out.1;simp[intOf];omega
    · rename_i hl1
      rw[hl1] at X1;replace X1:wq.cell? ⟨g,off+k*6+1,none⟩=some (zi 3):=X1;rw[Bool.and_eq_true] at hlev;have HCL:=zH (HSN.out hlev.1);have HCE:=zH (HSE.out hlev.2);clear hlev hl1;go_wp2_with (first|(go_at_call 50;refine (HCL.out).mono ?_;rintro e w2 ⟨rfl,hb2⟩;have HB2:=zH hb2;have X0':=HC0.out w2 hb2;clear hb2)|(go_at_call 52;refine (HCE.out _ HB2.out).mono ?_;rintro e w4 ⟨rfl,hb4⟩;have HB4:=zH hb4;clear hb4))
      go_roundw
      case rel=>exact⟨by first|trivial|rfl,k+1,rfl,by have:=HX.out.1;omega,HX.out.2.trans (HB4.out.mono HX.out.2.size)⟩
      case measure=>have:=HX.out.1;simp[intOf];omega
    · cases hlev
  · obtain rfl:k=n:=by omega
    have c0:((k:Int)<(k:Int))=False:=by simp
    have HX:=zH hb;clear hk hb hlt hnn hn;go_wp2
    go_ret2
    exact⟨rfl,HX.out⟩
theorem Cqs.at {base:Nat} {w:World}:∀ {l:List (En.Op×Res)} {cs:List Value},Cqs base w l cs→cs.length=l.length*9∧∀ {m:Nat} {x:En.Op×Res},l[m]? =some x→∃ vp,w.ownsRow base 134 2 vp x.2.pairs.length (pairCs x.2.pairs)∧∀ j,j<9→cs[m*9+j]? =(cqCs x.1 x.2 vp)[j]?
 |[],cs,h=>⟨by rw[show cs=[] from h];rfl,fun h=>by cases h⟩
 |p::l,cs,⟨vp,cs',h1,h2,h3⟩=>by
  obtain⟨i1,i2⟩:=Cqs.at h3;have hl:(cqCs p.1 p.2 vp).length=9:=rfl;refine⟨by rw[h1,List.length_append,i1,hl,List.length_cons];omega,fun {m x} hx=>?_⟩
  cases m with
  |zero=>
   obtain rfl:=Option.some.inj hx;exact⟨vp,h2,fun j hj=>by rw[h1,List.getElem?_append_left (by rw[hl];omega)];simp⟩
  |succ m=>
   obtain⟨vp',a,b⟩:=i2 (m:=m) (x:=x) hx;refine⟨vp',a,fun j hj=>?_⟩;rw[h1,List.getElem?_append_right (by rw[hl];omega),hl,←b j hj]
   congr 1;omega
theorem CM.of {base:Nat} {w:World} {v:Value} {ops:List (En.Op×Res)} {cs:List Value} (h:w.ownsRow base 51 9 v ops.length cs) (hq:Cqs 0 w ops cs):CM w v ops:=by
 obtain⟨i1,i2⟩:=hq.at;obtain⟨a,n,c,rfl,h1,-,-,h4⟩:=own_row h;obtain rfl:n=ops.length:=by omega
 refine⟨a,c,rfl,h4.imp (fun x=>x) ?_⟩;rintro ⟨g,off,e,-,hg,hc⟩;refine⟨g,off,e,hg,fun k x hx=>?_⟩;have hk:k<ops.length:=(List.getElem?_eq_some_iff.1 hx).1;obtain⟨vp,b1,b2⟩:=i2 hx;have hr:=own_row b1;have hr':=hr;obtain⟨va,vn,vc,rfl,-⟩:=hr';exact⟨va,vn,vc,hr,fun j hj=>by rw[hc _ (by omega)];exact b2 j hj⟩
theorem DM.of {base:Nat} {w:World} {O:Okr} {vd vb:Value} {ds:List (Dq×Value)} (h:OkM base w O vd vb ds):DM w vd O.deals:=by
 have hlen:=h.len;obtain⟨a,n,c,e,h1,-,-,h4⟩:=own_row h.dr;rw[dqsCs_len] at h1;obtain rfl:n=O.deals.length:=by omega
 refine⟨a,c,e,h4.imp (fun x=>x) ?_⟩;rintro ⟨g,off,e,-,hg,hc⟩;refine⟨g,off,e,hg,fun k d hd=>?_⟩;have hk:k<O.deals.length:=(List.getElem?_eq_some_iff.1 hd).1;obtain⟨v,hv⟩:=h.get hd;obtain⟨cs,c1,c2⟩:=h.ops k (d,v) hv;exact⟨v,CM.of c1 c2,fun j hj=>by rw[hc _ (by omega),dqsCs_get _ _ _ hj,hv];rfl⟩
theorem okEvs_ok {l:List Ev} (h:okEvs l=true):l.length≤20000∧∀ e∈l,e.res.pairs.length≤1000000∧e.n<9223372036854775808∧e.t≤1000000∧e.kind<100:=by
 unfold okEvs at h;rw[Bool.and_eq_true] at h;refine⟨Nat.le_of_ble_eq_true h.1,fun e he=>?_⟩;have h3:=List.all_eq_true.1 h.2 e he;simp only[Bool.and_eq_true] at h3;obtain⟨⟨⟨h4,h5⟩,h6⟩,h7⟩:=h3;exact⟨Nat.le_trans (Nat.le_of_ble_eq_true h4) (by omega),Nat.le_of_ble_eq_true h5,Nat.le_of_ble_eq_true h6,Nat.le_of_ble_eq_true h7⟩
theorem okDl_ok {w:World} {vd:Value} {l:List Dq} (h:okDl l=true) (hM:DM w vd l):HD w vd l:=by
 unfold okDl at h;simp only[Bool.and_eq_true] at h;obtain⟨⟨⟨h1,h2⟩,h3⟩,h4⟩:=h;refine⟨hM,Nat.le_of_ble_eq_true h1,fun k d hd=>?_,fun d hd=>?_,Nat.le_of_ble_eq_true h4⟩
 · have:=List.all_eq_true.1 h2 k (List.mem_range.2 (List.getElem?_eq_some_iff.1 hd).1)
   rw[List.getD_eq_getElem?_getD,hd] at this;exact Nat.eq_of_beq_eq_true this
 · have:=List.all_eq_true.1 h3 d hd
   simp only[Bool.and_eq_true] at this;obtain⟨⟨⟨a,b⟩,c⟩,e⟩:=this;refine⟨Nat.le_of_ble_eq_true a,Nat.le_of_ble_eq_true b,Nat.le_of_ble_eq_true c,fun x hx=>?_⟩;have:=List.all_eq_true.1 e x hx
   simpa using this
theorem objh' {w:World} {g:Nat} {cs:Array Value} {T:TypeId} (h:w.heap[g]? =some (.cells cs T)) (i:Nat) {v:Value} (hv:cs[i]? =some v):w.cell? ⟨g,i,none⟩=some v:=by
 rw[cell_of_row w g i _ _ _ h];exact hv
theorem taleOk' {b:Nat} {w0 w:World} {ks:List Kept} {σ:St} (h:EKt b w0 ks σ w) (hs:okEvs σ.tale=true):Calls Tryz.prog 28 #[.pointer (some ⟨b,0,none⟩)] w fun e w'=>∃ av ac cs,e=.returned (.slice av σ.tale.length ac)∧EKt b w0 ks σ w'∧w'.ownsRow w.heap.size 83 12 (.slice av σ.tale.length ac) σ.tale.length cs∧EvO w.heap.size w' σ.tale cs:=by
 obtain⟨A,rfl,hL,g,t⟩:=h.ex;obtain⟨h1,h2⟩:=okEvs_ok hs;refine (tale_any hL.rep (by omega) (fun e he=>(h2 e he).1)).mono ?_;rintro e w' ⟨v,cs,rfl,q1,q2,q3⟩;obtain⟨av,ac,rfl,_⟩:=Ow.own_form q1;exact⟨av,ac,cs,rfl,EKt.below ⟨A,rfl,hL,g,t⟩ q3,q1,q2⟩
theorem dealsOk' {b:Nat} {w0 w:World} {ks:List Kept} {σ:St} {O:Okr} {base:Nat} {av:Option Addr} {ac:Nat} {cs:List Value} (h:EKt b w0 ks σ w) (hs:okEvs σ.tale=true) (hO:okTale σ.tale ⟨[],[],0⟩=some O) (hk:okDl O.deals=true) (hv:w.ownsRow base 83 12 (.slice av σ.tale.length ac) σ.tale.length cs) (he:EvO base w σ.tale cs):
 Calls Tryz.prog 27 #[.slice av σ.tale.length ac] w fun e w'=>∃ dg dc,e=.returned (.tuple #[.bool true,zi (-1),.slice dg O.deals.length dc])∧EKt b w0 ks σ w'∧HD w' (.slice dg O.deals.length dc) O.deals:=by
 obtain⟨h1,h2⟩:=okEvs_ok hs;refine (ok_any w base σ.tale _ cs O hv he h1 h2 hO).mono ?_;rintro e w' ⟨vd,vb,ds,rfl,hM,hb⟩;have hD:=DM.of hM;have hD':=hD;obtain⟨dg,dc,rfl,-⟩:=hD';exact⟨dg,dc,rfl,h.below hb,okDl_ok hk hD⟩
theorem skew_11 (a' b':Int) (z:Int) (w:World) (hcs:(bits .and .i64 a' 255).tmod 3=0) (hms:(bits .and .i64 b' 255).tmod 3=0):Calls Tryz.prog 6 #[zi a',zi b',zu z] w fun e w'=>e=.returned (.bool true)∧Below w.heap.size w w':=by
 obtain⟨σ0,a1,σ1,r1,a2,σ2,r2,a3,σ3,r3,a4,σ4,r4,σ5,σ6,h0,h1,h2,h3,h4,h5,h6,h7,h8,h9,h10,hC⟩:=skRun_ok (sk_all 1 1 (by omega) (by omega) (by omega) (by omega));have HTW:Hid (∀ w,Calls Tryz.prog 24 #[zi 1,zi 1] w fun e w'=>∃ b,e=.returned (.pointer (some ⟨b,0,none⟩))∧EKt b w [] σ0 w'):=zH fun w=>by have h:=twoSt_ok (a:=1) (b:=1) h0 w;exact h
 have HAW:=zH awake24;clear h0;go_enter Tryz.func6,Tryz.ntmps6;go_upto_region 5 with (go_at_call 24;refine (HTW.out _).mono ?_;rintro e w1 ⟨b,rfl,q⟩;have T0:=zH q;clear q)
 clear HTW;have HD1:Hid (∀ ks w1,EKt b w ks σ0 w1→Calls Tryz.prog 25 #[.pointer (some ⟨b,0,none⟩),zi 0,.agg #[zi 1,zi 1,zi 0,zi 0]] w1 (fun e w'=>∃ va vc,e=.returned (.tuple #[.agg #[zi (r1.e:Int),zi (r1.value:Int),.slice va r1.pairs.length vc,zi (r1.over:Int),zi (r1.reason:Int)],zi 0])∧EKt b w (.row 2 (.slice va r1.pairs.length vc) (pairCs r1.pairs)::ks) σ1 w')):=fun ks w1 h=>by
  refine (do_kt (s:=0) h (o:=⟨1,1,0,0⟩) (by decide) h1 (by decide:(1000:Nat)≤_) h2).mono ?_;rintro e w' ⟨va,vn,vc,rfl,hvn,q⟩;subst hvn;exact⟨va,vc,rfl,q⟩
 have HD2:Hid (∀ ks w1,EKt b w ks σ1 w1→Calls Tryz.prog 25 #[.pointer (some ⟨b,0,none⟩),zi 1,.agg #[zi 1,zi 2,zi 0,zi 0]] w1 (fun e w'=>∃ va vc,e=.returned (.tuple #[.agg #[zi (r2.e:Int),zi (r2.value:Int),.slice va r2.pairs.length vc,zi (r2.over:Int),zi (r2.reason:Int)],zi 0])∧EKt b w (.row 2 (.slice va r2.pairs.length vc) (pairCs r2.pairs)::ks) σ2 w')):=fun ks w1 h=>by
  refine (do_kt (s:=1) h (o:=⟨1,2,0,0⟩) (by decide) h3 (by decide:(1000:Nat)≤_) h4).mono ?_;rintro e w' ⟨va,vn,vc,rfl,hvn,q⟩;subst hvn;exact⟨va,vc,rfl,q⟩
 have HD3:Hid (∀ ks w1,EKt b w ks σ2 w1→Calls Tryz.prog 25 #[.pointer (some ⟨b,0,none⟩),zi 0,.agg #[zi 3,zi 2,zi 0,zi 21]] w1 (fun e w'=>∃ va vc,e=.returned (.tuple #[.agg #[zi (r3.e:Int),zi (r3.value:Int),.slice va r3.pairs.length vc,zi (r3.over:Int),zi (r3.reason:Int)],zi 0])∧EKt b w (.row 2 (.slice va r3.pairs.length vc) (pairCs r3.pairs)::ks) σ3 w')):=fun ks w1 h=>by
  refine (do_kt (s:=0) h (o:=⟨3,2,0,21⟩) (by decide) h5 (by decide:(1000:Nat)≤_) h6).mono ?_;rintro e w' ⟨va,vn,vc,rfl,hvn,q⟩;subst hvn;exact⟨va,vc,rfl,q⟩
 have HD4:Hid (∀ ks w1,EKt b w ks σ3 w1→Calls Tryz.prog 25 #[.pointer (some ⟨b,0,none⟩),zi 1,.agg #[zi 3,zi 1,zi 0,zi 11]] w1 (fun e w'=>∃ va vc,e=.returned (.tuple #[.agg #[zi (r4.e:Int),zi (r4.value:Int),.slice va r4.pairs.length vc,zi (r4.over:Int),zi (r4.reason:Int)],zi 0])∧EKt b w (.row 2 (.slice va r4.pairs.length vc) (pairCs r4.pairs)::ks) σ4 w')):=fun ks w1 h=>by
  refine (do_kt (s:=1) h (o:=⟨3,1,0,11⟩) (by decide) h7 (by decide:(1000:Nat)≤_) h8).mono ?_;rintro e w' ⟨va,vn,vc,rfl,hvn,q⟩;subst hvn;exact⟨va,vc,rfl,q⟩
 have HST:Hid (∀ ks w1,EKt b w ks σ4 w1→Calls Tryz.prog 26 #[.pointer (some ⟨b,0,none⟩),zu z] w1 fun e w'=>∃ (xe xv xr ye yv yr:Int) (xa ya:Option Addr) (xn xc yn yc:Nat) (xo yo:Int) (τ:St) (O:Okr),e=.returned (.tuple #[.agg #[zi xe,zi xv,.slice xa xn xc,zi 3,zi xr],.agg #[zi ye,zi yv,.slice ya yn yc,zi 3,zi yr],.bool true])∧EKt b w [] τ w'∧True∧okEvs τ.tale=true∧okTale τ.tale ⟨[],[],0⟩=some O∧O.deals.length=3∧okDl O.deals=true∧holdsD O.deals=true):=fun ks w1 h=>by
  refine (steps_any h h9 h10 hC z).mono ?_;rintro e w' ⟨x,y,σ7,Y,rfl,q,hf,hx,hy,ht⟩;obtain⟨o1,o2,o3,o4,o5⟩:=skEnd_ok hf;rw[←ht] at o4 o5;obtain⟨O,p1,p2,p3,p4⟩:=skTale_ok o5;rw[←hx] at o1 o3;rw[←hy] at o2 o3;refine⟨(x.e:Int),(x.v:Int),(x.r:Int),(y.e:Int),(y.v:Int),(y.r:Int),x.pa,y.pa,x.pn,x.pc,y.pn,y.pc,(x.o:Int),(y.o:Int),σ7,O,?_,q,?_,o4,p1,p2,p3,p4⟩
  · unfold Rc.cs
    rw[o1 rfl];rw[o2 rfl];rfl
  · trivial
 clear h1 h2 h3 h4 h5 h6 h7 h8 h9 h10 hC;go_upto_region 6 with (go_at_call 25;refine (HD1.out _ _ T0.out).mono ?_;clear T0;rintro e wA ⟨_,_,rfl,q⟩;have T1:=zH q;clear q)
 go_upto_region 7 with (go_at_call 25;refine (HD2.out _ _ T1.out).mono ?_;clear T1;rintro e wB ⟨_,_,rfl,q⟩;have T2:=zH q;clear q)
 go_upto_region 8 with (go_at_call 25;refine (HD3.out _ _ T2.out).mono ?_;clear T2;rintro e wC ⟨_,_,rfl,q⟩;have T3:=zH q;clear q)
 go_upto_region 9 with (go_at_call 25;refine (HD4.out _ _ T3.out).mono ?_;clear T3;rintro e wD ⟨_,_,rfl,q⟩;have T4:=zH q;clear q)
 go_upto_region 10 with (go_at_call 26;refine (HST.out _ _ T4.out).mono ?_;clear T4;rintro e wE ⟨xe,xv,xr,ye,yv,yr,xa,ya,xn,xc,yn,yc,xo,yo,τ,O,rfl,q,hc,p1,p2,p3,p4,p5⟩;have T5:=zH ((q.alloc (.cells #[zi xe,zi xv,.slice xa xn xc,zi 3,zi xr] 49)).alloc (.cells #[zi ye,zi yv,.slice ya yn yc,zi 3,zi yr] 49));have zb:=objh' (T5.out.obj List.mem_cons_self) 3 rfl;rw[show ∀ o,(wE.alloc o).heap.size=wE.heap.size+1 from fun o=>by simp] at zb;have za:=objh' (T5.out.obj (List.mem_cons_of_mem _ List.mem_cons_self)) 3 rfl;have HCO:=zH hc;have HP:=zH (zA p1 (zA p2 (zA p3 (zA p4 p5))));clear q hc p1 p2 p3 p4 p5)
 generalize (wE.alloc _).alloc _=wF at*;obtain⟨dn,hdn⟩:∃ dn,dn=O.deals.length:=⟨_,rfl⟩
 have c9:((dn:Int)=3)=True:=by simp;have:=HP.out.2.2.1;omega
 have c8:((dn:Int)==3)=true:=by simp;have:=HP.out.2.2.1;omega
 have HDN:=zH hdn;obtain⟨tn,htn⟩:∃ tn,tn=τ.tale.length:=⟨_,rfl⟩
 have HTN:=zH htn;clear hdn htn
 go_wp2_with (first
   |(go_at_call 28;refine (taleOk' T5.out HP.out.1).mono ?_;rintro e wT ⟨av,ac,cs,rfl,q1,q2,q3⟩;have T6:=zH (zA q1 (zA q2 q3));clear q1 q2 q3)
   |(go_at_call 27;refine (dealsOk' T6.out.1 HP.out.1 HP.out.2.1 HP.out.2.2.2.1 T6.out.2.1 T6.out.2.2).mono ?_;rintro e wO ⟨dg,dc,rfl,q1,q2⟩;rw[←HDN.out] at q2 ⊢;have T7:=zH (zA q1 q2);clear q1 q2)
   |(go_at_call 29;refine (holdsAll_any T7.out.2 HP.out.2.2.2.2).mono ?_;rintro e wH ⟨rfl,hb⟩;have T8:=zH (T7.out.1.below hb);clear hb)
   |(go_at_call 23;refine (HAW.out _).mono ?_;rintro e wM ⟨rfl,hb⟩;have T9:=zH (T8.out.below hb);clear hb))
 go_ret;exact⟨rfl,T9.out.toBelow⟩
theorem skew_1x (a' b':Int) (z:Int) (m:Nat) (hm:m≠0) (hm3:m<3) (w:World) (hcs:(bits .and .i64 a' 255).tmod 3=0) (hms:(bits .and .i64 b' 255).tmod 3=(m:Int)):Calls Tryz.prog 6 #[zi a',zi b',zu z] w fun e w'=>e=.returned (.bool true)∧Below w.heap.size w w':=by
 obtain⟨bb,hbb⟩:∃ bb:Int,bb=(m:Int)+1:=⟨_,rfl⟩
 have nbb:IntKind.i64.wrap ((m:Int)+1)=bb:=by rw[IntKind.wrap_i64,hbb];omega
 have gbb1:(bb=1)=False:=by simp;omega
 have gbb2:(bb==1)=false:=by simp;omega
 have gbb3:(1<bb)=True:=by simp;omega
 have gbb4:decide (1<bb)=true:=by simp;omega
 obtain⟨σ0,a1,σ1,r1,a2,σ2,r2,a3,σ3,r3,a4,σ4,r4,σ5,σ6,h0,h1,h2,h3,h4,h5,h6,h7,h8,h9,h10,hC⟩:=skRun_ok (sk_all 1 (m+1) (by omega) (by omega) (by omega) (by omega));have HTW:Hid (∀ w,Calls Tryz.prog 24 #[zi 1,zi bb] w fun e w'=>∃ b,e=.returned (.pointer (some ⟨b,0,none⟩))∧EKt b w [] σ0 w'):=zH fun w=>by have h:=twoSt_ok (a:=1) (b:=(m+1)) h0 w;rw[show ((m+1:Nat):Int)=bb by omega] at h;exact h
 have HAW:=zH awake24;clear h0 hm3 hbb;go_enter Tryz.func6,Tryz.ntmps6;go_upto_region 5 with (go_at_call 24;refine (HTW.out _).mono ?_;rintro e w1 ⟨b,rfl,q⟩;have T0:=zH q;clear q)
 clear HTW;have HD1:Hid (∀ ks w1,EKt b w ks σ0 w1→Calls Tryz.prog 25 #[.pointer (some ⟨b,0,none⟩),zi 0,.agg #[zi 1,zi 1,zi 0,zi 0]] w1 (fun e w'=>∃ va vc,e=.returned (.tuple #[.agg #[zi (r1.e:Int),zi (r1.value:Int),.slice va r1.pairs.length vc,zi (r1.over:Int),zi (r1.reason:Int)],zi 0])∧EKt b w (.row 2 (.slice va r1.pairs.length vc) (pairCs r1.pairs)::ks) σ1 w')):=fun ks w1 h=>by
  refine (do_kt (s:=0) h (o:=⟨1,1,0,0⟩) (by decide) h1 (by decide:(1000:Nat)≤_) h2).mono ?_;rintro e w' ⟨va,vn,vc,rfl,hvn,q⟩;subst hvn;exact⟨va,vc,rfl,q⟩
 have HD2:Hid (∀ ks w1,EKt b w ks σ1 w1→Calls Tryz.prog 25 #[.pointer (some ⟨b,0,none⟩),zi 1,.agg #[zi 1,zi 2,zi 0,zi 0]] w1 (fun e w'=>∃ va vc,e=.returned (.tuple #[.agg #[zi (r2.e:Int),zi (r2.value:Int),.slice va r2.pairs.length vc,zi (r2.over:Int),zi (r2.reason:Int)],zi 0])∧EKt b w (.row 2 (.slice va r2.pairs.length vc) (pairCs r2.pairs)::ks) σ2 w')):=fun ks w1 h=>by
  refine (do_kt (s:=1) h (o:=⟨1,2,0,0⟩) (by decide) h3 (by decide:(1000:Nat)≤_) h4).mono ?_;rintro e w' ⟨va,vn,vc,rfl,hvn,q⟩;subst hvn;exact⟨va,vc,rfl,q⟩
 have HD3:Hid (∀ ks w1,EKt b w ks σ2 w1→Calls Tryz.prog 25 #[.pointer (some ⟨b,0,none⟩),zi 0,.agg #[zi 3,zi 2,zi 0,zi 21]] w1 (fun e w'=>∃ va vc,e=.returned (.tuple #[.agg #[zi (r3.e:Int),zi (r3.value:Int),.slice va r3.pairs.length vc,zi (r3.over:Int),zi (r3.reason:Int)],zi 0])∧EKt b w (.row 2 (.slice va r3.pairs.length vc) (pairCs r3.pairs)::ks) σ3 w')):=fun ks w1 h=>by
  refine (do_kt (s:=0) h (o:=⟨3,2,0,21⟩) (by decide) h5 (by decide:(1000:Nat)≤_) h6).mono ?_;rintro e w' ⟨va,vn,vc,rfl,hvn,q⟩;subst hvn;exact⟨va,vc,rfl,q⟩
 have HD4:Hid (∀ ks w1,EKt b w ks σ3 w1→Calls Tryz.prog 25 #[.pointer (some ⟨b,0,none⟩),zi 1,.agg #[zi 3,zi 1,zi 0,zi 11]] w1 (fun e w'=>∃ va vc,e=.returned (.tuple #[.agg #[zi (r4.e:Int),zi (r4.value:Int),.slice va r4.pairs.length vc,zi (r4.over:Int),zi (r4.reason:Int)],zi 0])∧EKt b w (.row 2 (.slice va r4.pairs.length vc) (pairCs r4.pairs)::ks) σ4 w')):=fun ks w1 h=>by
  refine (do_kt (s:=1) h (o:=⟨3,1,0,11⟩) (by decide) h7 (by decide:(1000:Nat)≤_) h8).mono ?_;rintro e w' ⟨va,vn,vc,rfl,hvn,q⟩;subst hvn;exact⟨va,vc,rfl,q⟩
 have HST:Hid (∀ ks w1,EKt b w ks σ4 w1→Calls Tryz.prog 26 #[.pointer (some ⟨b,0,none⟩),zu z] w1 fun e w'=>∃ (xe xv xr ye yv yr:Int) (xa ya:Option Addr) (xn xc yn yc:Nat) (xo yo:Int) (τ:St) (O:Okr),e=.returned (.tuple #[.agg #[zi xe,zi xv,.slice xa xn xc,zi 3,zi xr],.agg #[zi ye,zi yv,.slice ya yn yc,zi yo,zi yr],.bool true])∧EKt b w [] τ w'∧True∧okEvs τ.tale=true∧okTale τ.tale ⟨[],[],0⟩=some O∧O.deals.length=3∧okDl O.deals=true∧holdsD O.deals=true):=fun ks w1 h=>by
  refine (steps_any h h9 h10 hC z).mono ?_;rintro e w' ⟨x,y,σ7,Y,rfl,q,hf,hx,hy,ht⟩;obtain⟨o1,o2,o3,o4,o5⟩:=skEnd_ok hf;rw[←ht] at o4 o5;obtain⟨O,p1,p2,p3,p4⟩:=skTale_ok o5;rw[←hx] at o1 o3;rw[←hy] at o2 o3;refine⟨(x.e:Int),(x.v:Int),(x.r:Int),(y.e:Int),(y.v:Int),(y.r:Int),x.pa,y.pa,x.pn,x.pc,y.pn,y.pc,(x.o:Int),(y.o:Int),σ7,O,?_,q,?_,o4,p1,p2,p3,p4⟩
  · unfold Rc.cs
    rw[o1 rfl];rfl
  · trivial
 clear h1 h2 h3 h4 h5 h6 h7 h8 h9 h10 hC;go_upto_region 6 with (go_at_call 25;refine (HD1.out _ _ T0.out).mono ?_;clear T0;rintro e wA ⟨_,_,rfl,q⟩;have T1:=zH q;clear q)
 go_upto_region 7 with (go_at_call 25;refine (HD2.out _ _ T1.out).mono ?_;clear T1;rintro e wB ⟨_,_,rfl,q⟩;have T2:=zH q;clear q)
 go_upto_region 8 with (go_at_call 25;refine (HD3.out _ _ T2.out).mono ?_;clear T2;rintro e wC ⟨_,_,rfl,q⟩;have T3:=zH q;clear q)
 go_upto_region 9 with (go_at_call 25;refine (HD4.out _ _ T3.out).mono ?_;clear T3;rintro e wD ⟨_,_,rfl,q⟩;have T4:=zH q;clear q)
 go_upto_region 10 with (go_at_call 26;refine (HST.out _ _ T4.out).mono ?_;clear T4;rintro e wE ⟨xe,xv,xr,ye,yv,yr,xa,ya,xn,xc,yn,yc,xo,yo,τ,O,rfl,q,hc,p1,p2,p3,p4,p5⟩;have T5:=zH ((q.alloc (.cells #[zi xe,zi xv,.slice xa xn xc,zi 3,zi xr] 49)).alloc (.cells #[zi ye,zi yv,.slice ya yn yc,zi yo,zi yr] 49));have zb:=objh' (T5.out.obj List.mem_cons_self) 3 rfl;rw[show ∀ o,(wE.alloc o).heap.size=wE.heap.size+1 from fun o=>by simp] at zb;have za:=objh' (T5.out.obj (List.mem_cons_of_mem _ List.mem_cons_self)) 3 rfl;have HCO:=zH hc;have HP:=zH (zA p1 (zA p2 (zA p3 (zA p4 p5))));clear q hc p1 p2 p3 p4 p5)
 generalize (wE.alloc _).alloc _=wF at*;obtain⟨dn,hdn⟩:∃ dn,dn=O.deals.length:=⟨_,rfl⟩
 have c9:((dn:Int)=3)=True:=by simp;have:=HP.out.2.2.1;omega
 have c8:((dn:Int)==3)=true:=by simp;have:=HP.out.2.2.1;omega
 have HDN:=zH hdn;obtain⟨tn,htn⟩:∃ tn,tn=τ.tale.length:=⟨_,rfl⟩
 have HTN:=zH htn;clear hdn htn
 go_wp2_with (first
   |(go_at_call 28;refine (taleOk' T5.out HP.out.1).mono ?_;rintro e wT ⟨av,ac,cs,rfl,q1,q2,q3⟩;have T6:=zH (zA q1 (zA q2 q3));clear q1 q2 q3)
   |(go_at_call 27;refine (dealsOk' T6.out.1 HP.out.1 HP.out.2.1 HP.out.2.2.2.1 T6.out.2.1 T6.out.2.2).mono ?_;rintro e wO ⟨dg,dc,rfl,q1,q2⟩;rw[←HDN.out] at q2 ⊢;have T7:=zH (zA q1 q2);clear q1 q2)
   |(go_at_call 29;refine (holdsAll_any T7.out.2 HP.out.2.2.2.2).mono ?_;rintro e wH ⟨rfl,hb⟩;have T8:=zH (T7.out.1.below hb);clear hb)
   |(go_at_call 23;refine (HAW.out _).mono ?_;rintro e wM ⟨rfl,hb⟩;have T9:=zH (T8.out.below hb);clear hb))
 go_ret;exact⟨rfl,T9.out.toBelow⟩
theorem skew_x1 (a' b':Int) (z:Int) (c:Nat) (hc:c≠0) (hc3:c<3) (w:World) (hcs:(bits .and .i64 a' 255).tmod 3=(c:Int)) (hms:(bits .and .i64 b' 255).tmod 3=0):Calls Tryz.prog 6 #[zi a',zi b',zu z] w fun e w'=>e=.returned (.bool true)∧Below w.heap.size w w':=by
 obtain⟨aa,haa⟩:∃ aa:Int,aa=(c:Int)+1:=⟨_,rfl⟩
 have naa:IntKind.i64.wrap ((c:Int)+1)=aa:=by rw[IntKind.wrap_i64,haa];omega
 have gaa1:(aa=1)=False:=by simp;omega
 have gaa2:(aa==1)=false:=by simp;omega
 have gaa3:(1<aa)=True:=by simp;omega
 have gaa4:decide (1<aa)=true:=by simp;omega
 obtain⟨σ0,a1,σ1,r1,a2,σ2,r2,a3,σ3,r3,a4,σ4,r4,σ5,σ6,h0,h1,h2,h3,h4,h5,h6,h7,h8,h9,h10,hC⟩:=skRun_ok (sk_all (c+1) 1 (by omega) (by omega) (by omega) (by omega));have HTW:Hid (∀ w,Calls Tryz.prog 24 #[zi aa,zi 1] w fun e w'=>∃ b,e=.returned (.pointer (some ⟨b,0,none⟩))∧EKt b w [] σ0 w'):=zH fun w=>by have h:=twoSt_ok (a:=(c+1)) (b:=1) h0 w;rw[show ((c+1:Nat):Int)=aa by omega] at h;exact h
 have HAW:=zH awake24;clear h0 hc3 haa;go_enter Tryz.func6,Tryz.ntmps6;go_upto_region 5 with (go_at_call 24;refine (HTW.out _).mono ?_;rintro e w1 ⟨b,rfl,q⟩;have T0:=zH q;clear q)
 clear HTW;have HD1:Hid (∀ ks w1,EKt b w ks σ0 w1→Calls Tryz.prog 25 #[.pointer (some ⟨b,0,none⟩),zi 0,.agg #[zi 1,zi 1,zi 0,zi 0]] w1 (fun e w'=>∃ va vc,e=.returned (.tuple #[.agg #[zi (r1.e:Int),zi (r1.value:Int),.slice va r1.pairs.length vc,zi (r1.over:Int),zi (r1.reason:Int)],zi 0])∧EKt b w (.row 2 (.slice va r1.pairs.length vc) (pairCs r1.pairs)::ks) σ1 w')):=fun ks w1 h=>by
  refine (do_kt (s:=0) h (o:=⟨1,1,0,0⟩) (by decide) h1 (by decide:(1000:Nat)≤_) h2).mono ?_;rintro e w' ⟨va,vn,vc,rfl,hvn,q⟩;subst hvn;exact⟨va,vc,rfl,q⟩
 have HD2:Hid (∀ ks w1,EKt b w ks σ1 w1→Calls Tryz.prog 25 #[.pointer (some ⟨b,0,none⟩),zi 1,.agg #[zi 1,zi 2,zi 0,zi 0]] w1 (fun e w'=>∃ va vc,e=.returned (.tuple #[.agg #[zi (r2.e:Int),zi (r2.value:Int),.slice va r2.pairs.length vc,zi (r2.over:Int),zi (r2.reason:Int)],zi 0])∧EKt b w (.row 2 (.slice va r2.pairs.length vc) (pairCs r2.pairs)::ks) σ2 w')):=fun ks w1 h=>by
  refine (do_kt (s:=1) h (o:=⟨1,2,0,0⟩) (by decide) h3 (by decide:(1000:Nat)≤_) h4).mono ?_;rintro e w' ⟨va,vn,vc,rfl,hvn,q⟩;subst hvn;exact⟨va,vc,rfl,q⟩
 have HD3:Hid (∀ ks w1,EKt b w ks σ2 w1→Calls Tryz.prog 25 #[.pointer (some ⟨b,0,none⟩),zi 0,.agg #[zi 3,zi 2,zi 0,zi 21]] w1 (fun e w'=>∃ va vc,e=.returned (.tuple #[.agg #[zi (r3.e:Int),zi (r3.value:Int),.slice va r3.pairs.length vc,zi (r3.over:Int),zi (r3.reason:Int)],zi 0])∧EKt b w (.row 2 (.slice va r3.pairs.length vc) (pairCs r3.pairs)::ks) σ3 w')):=fun ks w1 h=>by
  refine (do_kt (s:=0) h (o:=⟨3,2,0,21⟩) (by decide) h5 (by decide:(1000:Nat)≤_) h6).mono ?_;rintro e w' ⟨va,vn,vc,rfl,hvn,q⟩;subst hvn;exact⟨va,vc,rfl,q⟩
 have HD4:Hid (∀ ks w1,EKt b w ks σ3 w1→Calls Tryz.prog 25 #[.pointer (some ⟨b,0,none⟩),zi 1,.agg #[zi 3,zi 1,zi 0,zi 11]] w1 (fun e w'=>∃ va vc,e=.returned (.tuple #[.agg #[zi (r4.e:Int),zi (r4.value:Int),.slice va r4.pairs.length vc,zi (r4.over:Int),zi (r4.reason:Int)],zi 0])∧EKt b w (.row 2 (.slice va r4.pairs.length vc) (pairCs r4.pairs)::ks) σ4 w')):=fun ks w1 h=>by
  refine (do_kt (s:=1) h (o:=⟨3,1,0,11⟩) (by decide) h7 (by decide:(1000:Nat)≤_) h8).mono ?_;rintro e w' ⟨va,vn,vc,rfl,hvn,q⟩;subst hvn;exact⟨va,vc,rfl,q⟩
 have HST:Hid (∀ ks w1,EKt b w ks σ4 w1→Calls Tryz.prog 26 #[.pointer (some ⟨b,0,none⟩),zu z] w1 fun e w'=>∃ (xe xv xr ye yv yr:Int) (xa ya:Option Addr) (xn xc yn yc:Nat) (xo yo:Int) (τ:St) (O:Okr),e=.returned (.tuple #[.agg #[zi xe,zi xv,.slice xa xn xc,zi xo,zi xr],.agg #[zi ye,zi yv,.slice ya yn yc,zi 3,zi yr],.bool true])∧EKt b w [] τ w'∧True∧okEvs τ.tale=true∧okTale τ.tale ⟨[],[],0⟩=some O∧O.deals.length=3∧okDl O.deals=true∧holdsD O.deals=true):=fun ks w1 h=>by
  refine (steps_any h h9 h10 hC z).mono ?_;rintro e w' ⟨x,y,σ7,Y,rfl,q,hf,hx,hy,ht⟩;obtain⟨o1,o2,o3,o4,o5⟩:=skEnd_ok hf;rw[←ht] at o4 o5;obtain⟨O,p1,p2,p3,p4⟩:=skTale_ok o5;rw[←hx] at o1 o3;rw[←hy] at o2 o3;refine⟨(x.e:Int),(x.v:Int),(x.r:Int),(y.e:Int),(y.v:Int),(y.r:Int),x.pa,y.pa,x.pn,x.pc,y.pn,y.pc,(x.o:Int),(y.o:Int),σ7,O,?_,q,?_,o4,p1,p2,p3,p4⟩
  · unfold Rc.cs
    rw[o2 rfl];rfl
  · trivial
 clear h1 h2 h3 h4 h5 h6 h7 h8 h9 h10 hC;go_upto_region 6 with (go_at_call 25;refine (HD1.out _ _ T0.out).mono ?_;clear T0;rintro e wA ⟨_,_,rfl,q⟩;have T1:=zH q;clear q)
 go_upto_region 7 with (go_at_call 25;refine (HD2.out _ _ T1.out).mono ?_;clear T1;rintro e wB ⟨_,_,rfl,q⟩;have T2:=zH q;clear q)
 go_upto_region 8 with (go_at_call 25;refine (HD3.out _ _ T2.out).mono ?_;clear T2;rintro e wC ⟨_,_,rfl,q⟩;have T3:=zH q;clear q)
 go_upto_region 9 with (go_at_call 25;refine (HD4.out _ _ T3.out).mono ?_;clear T3;rintro e wD ⟨_,_,rfl,q⟩;have T4:=zH q;clear q)
 go_upto_region 10 with (go_at_call 26;refine (HST.out _ _ T4.out).mono ?_;clear T4;rintro e wE ⟨xe,xv,xr,ye,yv,yr,xa,ya,xn,xc,yn,yc,xo,yo,τ,O,rfl,q,hc,p1,p2,p3,p4,p5⟩;have T5:=zH ((q.alloc (.cells #[zi xe,zi xv,.slice xa xn xc,zi xo,zi xr] 49)).alloc (.cells #[zi ye,zi yv,.slice ya yn yc,zi 3,zi yr] 49));have zb:=objh' (T5.out.obj List.mem_cons_self) 3 rfl;rw[show ∀ o,(wE.alloc o).heap.size=wE.heap.size+1 from fun o=>by simp] at zb;have za:=objh' (T5.out.obj (List.mem_cons_of_mem _ List.mem_cons_self)) 3 rfl;have HCO:=zH hc;have HP:=zH (zA p1 (zA p2 (zA p3 (zA p4 p5))));clear q hc p1 p2 p3 p4 p5)
 generalize (wE.alloc _).alloc _=wF at*;obtain⟨dn,hdn⟩:∃ dn,dn=O.deals.length:=⟨_,rfl⟩
 have c9:((dn:Int)=3)=True:=by simp;have:=HP.out.2.2.1;omega
 have c8:((dn:Int)==3)=true:=by simp;have:=HP.out.2.2.1;omega
 have HDN:=zH hdn;obtain⟨tn,htn⟩:∃ tn,tn=τ.tale.length:=⟨_,rfl⟩
 have HTN:=zH htn;clear hdn htn
 go_wp2_with (first
   |(go_at_call 28;refine (taleOk' T5.out HP.out.1).mono ?_;rintro e wT ⟨av,ac,cs,rfl,q1,q2,q3⟩;have T6:=zH (zA q1 (zA q2 q3));clear q1 q2 q3)
   |(go_at_call 27;refine (dealsOk' T6.out.1 HP.out.1 HP.out.2.1 HP.out.2.2.2.1 T6.out.2.1 T6.out.2.2).mono ?_;rintro e wO ⟨dg,dc,rfl,q1,q2⟩;rw[←HDN.out] at q2 ⊢;have T7:=zH (zA q1 q2);clear q1 q2)
   |(go_at_call 29;refine (holdsAll_any T7.out.2 HP.out.2.2.2.2).mono ?_;rintro e wH ⟨rfl,hb⟩;have T8:=zH (T7.out.1.below hb);clear hb)
   |(go_at_call 23;refine (HAW.out _).mono ?_;rintro e wM ⟨rfl,hb⟩;have T9:=zH (T8.out.below hb);clear hb))
 go_ret;exact⟨rfl,T9.out.toBelow⟩
theorem skew_xx (a' b':Int) (z:Int) (c:Nat) (hc:c≠0) (hc3:c<3) (m:Nat) (hm:m≠0) (hm3:m<3) (w:World) (hcs:(bits .and .i64 a' 255).tmod 3=(c:Int)) (hms:(bits .and .i64 b' 255).tmod 3=(m:Int)):Calls Tryz.prog 6 #[zi a',zi b',zu z] w fun e w'=>e=.returned (.bool true)∧Below w.heap.size w w':=by
 obtain⟨aa,haa⟩:∃ aa:Int,aa=(c:Int)+1:=⟨_,rfl⟩
 have naa:IntKind.i64.wrap ((c:Int)+1)=aa:=by rw[IntKind.wrap_i64,haa];omega
 have gaa1:(aa=1)=False:=by simp;omega
 have gaa2:(aa==1)=false:=by simp;omega
 have gaa3:(1<aa)=True:=by simp;omega
 have gaa4:decide (1<aa)=true:=by simp;omega
 obtain⟨bb,hbb⟩:∃ bb:Int,bb=(m:Int)+1:=⟨_,rfl⟩
 have nbb:IntKind.i64.wrap ((m:Int)+1)=bb:=by rw[IntKind.wrap_i64,hbb];omega
 have gbb1:(bb=1)=False:=by simp;omega
 have gbb2:(bb==1)=false:=by simp;omega
 have gbb3:(1<bb)=True:=by simp;omega
 have gbb4:decide (1<bb)=true:=by simp;omega
 obtain⟨σ0,a1,σ1,r1,a2,σ2,r2,a3,σ3,r3,a4,σ4,r4,σ5,σ6,h0,h1,h2,h3,h4,h5,h6,h7,h8,h9,h10,hC⟩:=skRun_ok (sk_all (c+1) (m+1) (by omega) (by omega) (by omega) (by omega));have HTW:Hid (∀ w,Calls Tryz.prog 24 #[zi aa,zi bb] w fun e w'=>∃ b,e=.returned (.pointer (some ⟨b,0,none⟩))∧EKt b w [] σ0 w'):=zH fun w=>by have h:=twoSt_ok (a:=(c+1)) (b:=(m+1)) h0 w;rw[show ((c+1:Nat):Int)=aa by omega] at h;rw[show ((m+1:Nat):Int)=bb by omega] at h;exact h
 have HAW:=zH awake24;clear h0 hc3 haa hm3 hbb;go_enter Tryz.func6,Tryz.ntmps6;go_upto_region 5 with (go_at_call 24;refine (HTW.out _).mono ?_;rintro e w1 ⟨b,rfl,q⟩;have T0:=zH q;clear q)
 clear HTW;have HD1:Hid (∀ ks w1,EKt b w ks σ0 w1→Calls Tryz.prog 25 #[.pointer (some ⟨b,0,none⟩),zi 0,.agg #[zi 1,zi 1,zi 0,zi 0]] w1 (fun e w'=>∃ va vc,e=.returned (.tuple #[.agg #[zi (r1.e:Int),zi (r1.value:Int),.slice va r1.pairs.length vc,zi (r1.over:Int),zi (r1.reason:Int)],zi 0])∧EKt b w (.row 2 (.slice va r1.pairs.length vc) (pairCs r1.pairs)::ks) σ1 w')):=fun ks w1 h=>by
  refine (do_kt (s:=0) h (o:=⟨1,1,0,0⟩) (by decide) h1 (by decide:(1000:Nat)≤_) h2).mono ?_;rintro e w' ⟨va,vn,vc,rfl,hvn,q⟩;subst hvn;exact⟨va,vc,rfl,q⟩
 have HD2:Hid (∀ ks w1,EKt b w ks σ1 w1→Calls Tryz.prog 25 #[.pointer (some ⟨b,0,none⟩),zi 1,.agg #[zi 1,zi 2,zi 0,zi 0]] w1 (fun e w'=>∃ va vc,e=.returned (.tuple #[.agg #[zi (r2.e:Int),zi (r2.value:Int),.slice va r2.pairs.length vc,zi (r2.over:Int),zi (r2.reason:Int)],zi 0])∧EKt b w (.row 2 (.slice va r2.pairs.length vc) (pairCs r2.pairs)::ks) σ2 w')):=fun ks w1 h=>by
  refine (do_kt (s:=1) h (o:=⟨1,2,0,0⟩) (by decide) h3 (by decide:(1000:Nat)≤_) h4).mono ?_;rintro e w' ⟨va,vn,vc,rfl,hvn,q⟩;subst hvn;exact⟨va,vc,rfl,q⟩
 have HD3:Hid (∀ ks w1,EKt b w ks σ2 w1→Calls Tryz.prog 25 #[.pointer (some ⟨b,0,none⟩),zi 0,.agg #[zi 3,zi 2,zi 0,zi 21]] w1 (fun e w'=>∃ va vc,e=.returned (.tuple #[.agg #[zi (r3.e:Int),zi (r3.value:Int),.slice va r3.pairs.length vc,zi (r3.over:Int),zi (r3.reason:Int)],zi 0])∧EKt b w (.row 2 (.slice va r3.pairs.length vc) (pairCs r3.pairs)::ks) σ3 w')):=fun ks w1 h=>by
  refine (do_kt (s:=0) h (o:=⟨3,2,0,21⟩) (by decide) h5 (by decide:(1000:Nat)≤_) h6).mono ?_;rintro e w' ⟨va,vn,vc,rfl,hvn,q⟩;subst hvn;exact⟨va,vc,rfl,q⟩
 have HD4:Hid (∀ ks w1,EKt b w ks σ3 w1→Calls Tryz.prog 25 #[.pointer (some ⟨b,0,none⟩),zi 1,.agg #[zi 3,zi 1,zi 0,zi 11]] w1 (fun e w'=>∃ va vc,e=.returned (.tuple #[.agg #[zi (r4.e:Int),zi (r4.value:Int),.slice va r4.pairs.length vc,zi (r4.over:Int),zi (r4.reason:Int)],zi 0])∧EKt b w (.row 2 (.slice va r4.pairs.length vc) (pairCs r4.pairs)::ks) σ4 w')):=fun ks w1 h=>by
  refine (do_kt (s:=1) h (o:=⟨3,1,0,11⟩) (by decide) h7 (by decide:(1000:Nat)≤_) h8).mono ?_;rintro e w' ⟨va,vn,vc,rfl,hvn,q⟩;subst hvn;exact⟨va,vc,rfl,q⟩
 have HST:Hid (∀ ks w1,EKt b w ks σ4 w1→Calls Tryz.prog 26 #[.pointer (some ⟨b,0,none⟩),zu z] w1 fun e w'=>∃ (xe xv xr ye yv yr:Int) (xa ya:Option Addr) (xn xc yn yc:Nat) (xo yo:Int) (τ:St) (O:Okr),e=.returned (.tuple #[.agg #[zi xe,zi xv,.slice xa xn xc,zi xo,zi xr],.agg #[zi ye,zi yv,.slice ya yn yc,zi yo,zi yr],.bool true])∧EKt b w [] τ w'∧¬ (xo=3∧yo=3)∧okEvs τ.tale=true∧okTale τ.tale ⟨[],[],0⟩=some O∧O.deals.length=3∧okDl O.deals=true∧holdsD O.deals=true):=fun ks w1 h=>by
  refine (steps_any h h9 h10 hC z).mono ?_;rintro e w' ⟨x,y,σ7,Y,rfl,q,hf,hx,hy,ht⟩;obtain⟨o1,o2,o3,o4,o5⟩:=skEnd_ok hf;rw[←ht] at o4 o5;obtain⟨O,p1,p2,p3,p4⟩:=skTale_ok o5;rw[←hx] at o1 o3;rw[←hy] at o2 o3;refine⟨(x.e:Int),(x.v:Int),(x.r:Int),(y.e:Int),(y.v:Int),(y.r:Int),x.pa,y.pa,x.pn,x.pc,y.pn,y.pc,(x.o:Int),(y.o:Int),σ7,O,?_,q,?_,o4,p1,p2,p3,p4⟩
  · unfold Rc.cs
    skip
    rfl
  · have:=o3 (by omega) (by omega);omega
 clear h1 h2 h3 h4 h5 h6 h7 h8 h9 h10 hC;go_upto_region 6 with (go_at_call 25;refine (HD1.out _ _ T0.out).mono ?_;clear T0;rintro e wA ⟨_,_,rfl,q⟩;have T1:=zH q;clear q)
 go_upto_region 7 with (go_at_call 25;refine (HD2.out _ _ T1.out).mono ?_;clear T1;rintro e wB ⟨_,_,rfl,q⟩;have T2:=zH q;clear q)
 go_upto_region 8 with (go_at_call 25;refine (HD3.out _ _ T2.out).mono ?_;clear T2;rintro e wC ⟨_,_,rfl,q⟩;have T3:=zH q;clear q)
 go_upto_region 9 with (go_at_call 25;refine (HD4.out _ _ T3.out).mono ?_;clear T3;rintro e wD ⟨_,_,rfl,q⟩;have T4:=zH q;clear q)
 go_upto_region 10 with (go_at_call 26;refine (HST.out _ _ T4.out).mono ?_;clear T4;rintro e wE ⟨xe,xv,xr,ye,yv,yr,xa,ya,xn,xc,yn,yc,xo,yo,τ,O,rfl,q,hc,p1,p2,p3,p4,p5⟩;have T5:=zH ((q.alloc (.cells #[zi xe,zi xv,.slice xa xn xc,zi xo,zi xr] 49)).alloc (.cells #[zi ye,zi yv,.slice ya yn yc,zi yo,zi yr] 49));have zb:=objh' (T5.out.obj List.mem_cons_self) 3 rfl;rw[show ∀ o,(wE.alloc o).heap.size=wE.heap.size+1 from fun o=>by simp] at zb;have za:=objh' (T5.out.obj (List.mem_cons_of_mem _ List.mem_cons_self)) 3 rfl;have HCO:=zH hc;have HP:=zH (zA p1 (zA p2 (zA p3 (zA p4 p5))));clear q hc p1 p2 p3 p4 p5)
 generalize (wE.alloc _).alloc _=wF at*
 rcases Classical.em (xo=3) with hx3|hx3
 · have hy3:yo≠3:=fun h=>HCO.out ⟨hx3,h⟩
   subst hx3;have y1:(yo=3)=False:=by simp[hy3]
   have y2:(yo==3)=false:=by simp[hy3]
   have y3:decide (yo=3)=false:=by simp[hy3]
   clear hy3;obtain⟨dn,hdn⟩:∃ dn,dn=O.deals.length:=⟨_,rfl⟩
   have c9:((dn:Int)=3)=True:=by simp;have:=HP.out.2.2.1;omega
   have c8:((dn:Int)==3)=true:=by simp;have:=HP.out.2.2.1;omega
   have HDN:=zH hdn;obtain⟨tn,htn⟩:∃ tn,tn=τ.tale.length:=⟨_,rfl⟩
   have HTN:=zH htn;clear hdn htn
   go_wp2_with (first
     |(go_at_call 28;refine (taleOk' T5.out HP.out.1).mono ?_;rintro e wT ⟨av,ac,cs,rfl,q1,q2,q3⟩;have T6:=zH (zA q1 (zA q2 q3));clear q1 q2 q3)
     |(go_at_call 27;refine (dealsOk' T6.out.1 HP.out.1 HP.out.2.1 HP.out.2.2.2.1 T6.out.2.1 T6.out.2.2).mono ?_;rintro e wO ⟨dg,dc,rfl,q1,q2⟩;rw[←HDN.out] at q2 ⊢;have T7:=zH (zA q1 q2);clear q1 q2)
     |(go_at_call 29;refine (holdsAll_any T7.out.2 HP.out.2.2.2.2).mono ?_;rintro e wH ⟨rfl,hb⟩;have T8:=zH (T7.out.1.below hb);clear hb)
     |(go_at_call 23;refine (HAW.out _).mono ?_;rintro e wM ⟨rfl,hb⟩;have T9:=zH (T8.out.below hb);clear hb))
   go_ret;exact⟨rfl,T9.out.toBelow⟩
 · have y1:(xo=3)=False:=by simp[hx3]
   have y2:(xo==3)=false:=by simp[hx3]
   have y3:decide (xo=3)=false:=by simp[hx3]
   clear hx3;obtain⟨dn,hdn⟩:∃ dn,dn=O.deals.length:=⟨_,rfl⟩
   have c9:((dn:Int)=3)=True:=by simp;have:=HP.out.2.2.1;omega
   have c8:((dn:Int)==3)=true:=by simp;have:=HP.out.2.2.1;omega
   have HDN:=zH hdn;obtain⟨tn,htn⟩:∃ tn,tn=τ.tale.length:=⟨_,rfl⟩
   have HTN:=zH htn;clear hdn htn
   go_wp2_with (first
     |(go_at_call 28;refine (taleOk' T5.out HP.out.1).mono ?_;rintro e wT ⟨av,ac,cs,rfl,q1,q2,q3⟩;have T6:=zH (zA q1 (zA q2 q3));clear q1 q2 q3)
     |(go_at_call 27;refine (dealsOk' T6.out.1 HP.out.1 HP.out.2.1 HP.out.2.2.2.1 T6.out.2.1 T6.out.2.2).mono ?_;rintro e wO ⟨dg,dc,rfl,q1,q2⟩;rw[←HDN.out] at q2 ⊢;have T7:=zH (zA q1 q2);clear q1 q2)
     |(go_at_call 29;refine (holdsAll_any T7.out.2 HP.out.2.2.2.2).mono ?_;rintro e wH ⟨rfl,hb⟩;have T8:=zH (T7.out.1.below hb);clear hb)
     |(go_at_call 23;refine (HAW.out _).mono ?_;rintro e wM ⟨rfl,hb⟩;have T9:=zH (T8.out.below hb);clear hb))
   go_ret;exact⟨rfl,T9.out.toBelow⟩
theorem skew_law (a' b':Int) (z:Int) (w:World):Calls Tryz.prog 6 #[zi a',zi b',zu z] w fun e w'=>e=.returned (.bool true)∧Below w.heap.size w w':=by
 obtain⟨c,hc,hcs⟩:=mask_to a' 3 (by decide);obtain⟨m,hm,hms⟩:=mask_to b' 3 (by decide)
 by_cases c0:c=0
 · subst c0
   by_cases m0:m=0
   · subst m0;exact skew_11 a' b' z w hcs hms
   · exact skew_1x a' b' z m m0 hm w hcs hms
 · by_cases m0:m=0
   · subst m0;exact skew_x1 a' b' z c c0 hc w hcs hms
   · exact skew_xx a' b' z c c0 hc m m0 hm w hcs hms
theorem skew_lawF {p q r:Prop} (a' b':Int) (z:Int) (_:p) (_:q) (_:r) (w:World):Calls Tryz.prog 6 #[zi a',zi b',zu z] w fun e w'=>e=.returned (.bool true)∧Below w.heap.size w w':=skew_law a' b' z w
end Go.Proofs.YtpkenfnmkpmapaaGreat.Em
