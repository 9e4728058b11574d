import Derived.Test.YtpkenfnmkpmapaaGreatQg25
namespace Go.Proofs.YtpkenfnmkpmapaaGreat.Em
open Go.ChangeShapes Go.WideShapes Go.ChangeAt Go.RowKit En
set_option linter.unusedVariables false
set_option linter.unusedSimpArgs false
set_option maxRecDepth 100000
set_option maxHeartbeats 1600000
theorem stateD_any (w:World) (vd:Value) (l:List Dq) (at_ but:Nat) (b:Int) (hM:DM w vd l) (hn:l.length≤1000) (hat:at_<9223372036854775808) (hbut:∀ k:Nat,k<l.length→(((k:Int)=b)↔k=but)) (B:Nat) (hBB:B≤1000000) (hS:untS l (List.replicate l.length false)≤B):
 Calls Tryz.prog 75 #[vd,zu (at_:Int),zi b] w fun e w'=>∃ av n cv,e=.returned (.slice av n cv)∧PR w' (.slice av n cv) (stateD l at_ but)∧n=(stateD l at_ but).length∧n≤B∧Below w.heap.size w w':=by
 have HDM:=zH (show ∀ w',Below w.heap.size w w'→DM w' vd l from fun w' hb=>hM.below hb);obtain⟨a,c,rfl,-⟩:=hM;obtain⟨n,hnn⟩:∃ n,n=l.length:=⟨_,rfl⟩
 rw[←hnn] at HDM hn hbut hS ⊢;have HCC:Hid (∀ w',Below w.heap.size w w'→0<n→∃ g off,a=some ⟨g,off,none⟩∧∀ w',Below w.heap.size w w'→∀ k d,l[k]? =some d→∃ vo,CM w' vo d.ops∧∀ j,j<6→w'.cell? ⟨g,off+(k*6+j),none⟩=(dqCs d vo)[j]?):=zH fun w' hb h0=>by
  obtain⟨a1,c1,e1,h1⟩:=HDM.out w (Below.refl _ _);simp only[Value.slice.injEq] at e1;obtain⟨g,off,e2,hg,-⟩:=h1.resolve_left (by omega);refine⟨g,off,by rw[e1.1,e2],fun w' hb=>?_⟩;obtain⟨a3,c3,e3,h3⟩:=HDM.out w' hb;simp only[Value.slice.injEq] at e3;obtain⟨g',off',e4,-,h4⟩:=h3.resolve_left (by omega);have:some (⟨g,off,none⟩:Addr)=some ⟨g',off',none⟩:=by rw[←e2,←e4,←e1.1,←e3.1]
  simp only[Option.some.injEq,Addr.mk.injEq,and_true] at this;obtain⟨rfl,rfl⟩:=this;exact h4
 have hmk:=fun w=>make_bools n (by omega) w
 have HF:Hid (stateF l at_ but (n+1) (List.replicate n false) []=stateD l at_ but):=zH (by unfold stateD;rw[←hnn]);have H0:=zH (zA hnn (zA hn (zA hat (zA hbut hS))));clear hnn hn hat hbut hS HDM;generalize stateD l at_ but=fin at*;go_enter Tryz.func75,Tryz.ntmps75;go_wp2;clear hmk
 go_loopw [7] (fun out wr=>∃ tk ps,SL w l tk ps out wr∧ps.length+untS l tk≤B∧∃ f,tk.count false<f∧stateF l at_ but f tk ps=fin) (fun _ wr=>mzB w.heap.size wr)
 case atStart=>
  refine⟨List.replicate n false,[],⟨(Below.refl _ _).alloc (Nat.le_refl _) _,by simp,?_,by rw[List.length_replicate];exact H0.out.1,⟨none,0,0,rfl,rfl,Nat.zero_le _,by unfold maxLen;omega,.inl rfl⟩⟩,by have:=H0.out.2.2.2.2;simpa using this,n+1,by simp,HF.out⟩;rw[heap_alloc_new];have:madeCells #[.bool false] n=((List.replicate n false).map Value.bool).toArray:=by
   apply Array.toList_inj.1;rw[toList_madeCells_one];simp
  rw[this]
 case round=>
  rename World=>wq
  obtain⟨tk,ps,hL,hB,f,hf,hfin⟩:=hrel;obtain⟨av,cv,rfl⟩:=hL.form;obtain⟨pn,hpn⟩:∃ pn,pn=ps.length:=⟨_,rfl⟩
  rw[←hpn] at hL ⊢;have HL:=zH (zA hL (zA hB (zA hf (zA hfin hpn))));have htl:tk.length=n:=hL.tl.trans H0.out.1.symm;have HT:=zH htl;clear hL hB hf hfin hpn htl;go_wp2
  go_loopw [9,10] (fun kk i wr2=>Below wq.heap.size wq wr2∧∃ m:Nat,i=zi (m:Int)∧m≤n∧kk=zi (pickI (pickD l at_ but tk m))) (fun _ i _=>n - (intOf i).toNat)
  case atStart=>exact⟨Below.refl _ _,0,rfl,Nat.zero_le _,rfl⟩
  case round=>
   rename World=>wr2
   obtain⟨hb2,m,rfl,hm,rfl⟩:=hrel;obtain⟨hnn,hn,hat,hbut,hS⟩:=H0.out
   by_cases hlt:m<n
   · obtain⟨g,off,rfl,hcc⟩:=HCC.out w (Below.refl _ _) (by omega)
     obtain⟨d,hd⟩:∃ d,l[m]? =some d:=⟨_,List.getElem?_eq_getElem (by omega)⟩
     have hW:∀ w',Below wr2.heap.size wr2 w'→Below w.heap.size w w':=fun w' hb=>(HL.out.1.bel.trans (hb2.mono HL.out.1.bel.size)).trans (hb.mono (Nat.le_trans HL.out.1.bel.size hb2.size))
     have HW:Hid (Below wr2.heap.size wr2 wr2):=zH (Below.refl _ _);have HC:Hid (∀ w',Below wr2.heap.size wr2 w'→w'.cell? ⟨g,off+m*6+2,none⟩=some (zi (d.state:Int))∧w'.cell? ⟨w.heap.size,m,none⟩=some (.bool (tk.getD m false))∧w'.cell? ⟨g,off+m*6+4,none⟩=some (zu (d.end_:Int))):=zH fun w' hb=>by
      obtain⟨vo,-,hj⟩:=hcc w' (hW w' hb) m d hd;refine⟨by have:=hj 2 (by omega);rw[Nat.add_assoc];exact this,((HL.out.1.below hb2).below hb).tkc (by rw[HT.out];exact hlt),by have:=hj 4 (by omega);rw[Nat.add_assoc];exact this⟩
     have HQ:Hid (∀ q dq,l[q]? =some dq→∀ w',Below wr2.heap.size wr2 w'→w'.cell? ⟨g,off+q*6+4,none⟩=some (zu (dq.end_:Int))):=zH fun q dq hq w' hb=>by
      obtain⟨vo,-,hj⟩:=hcc w' (hW w' hb) q dq hq;have:=hj 4 (by omega);rw[Nat.add_assoc];exact this
     have c0:((m:Int)<(n:Int))=True:=by simp;omega
     have c1:(m:Int)<(n:Int):=by omega
     have c2:(0:Int)≤(m:Int):=by omega
     have n3:IntKind.i64.wrap ((m:Int)+1)=(m:Int)+1:=by rw[IntKind.wrap_i64];omega
     obtain⟨p1,p2⟩:=pickD_succ (at_:=at_) (but:=but) (tk:=tk) hd;have hbm:=hbut m hlt;have HB2:=zH (zA hb2 (zA hlt hn));clear hb2 hlt hn hat hbut hS hm hW hcc hnn;obtain⟨pk,hpk⟩:∃ pk,pk=pickI (pickD l at_ but tk m):=⟨_,rfl⟩
     rw[←hpk];have END:∀ (r:Option Nat),pickD l at_ but tk (m+1)=r→Below wq.heap.size wq wr2.drew∧∃ m':Nat,Value.int .i64 ((m:Int)+1)=zi (m':Int)∧m'≤n∧Value.int .i64 (pickI r)=zi (pickI (pickD l at_ but tk m')):=fun r h=>⟨HB2.out.1.drew,m+1,rfl,by have:=HB2.out.2.1;omega,by rw[h]⟩
     have HEND:=zH END;clear END
     by_cases h3:d.state=3
     rotate_left
     · have HP:=zH (p1 (.inl h3))
       have HPK:=zH hpk;have s1:((d.state:Int)=3)=False:=by simp;omega
       have s2:((d.state:Int)==3)=false:=by simp;omega
       have s3:decide ((d.state:Int)=3)=false:=by simp;omega
       clear h3 hpk p1 p2 hbm hd;go_upto_region 7 with fail
       refine wp_region_held_drew (S:=fun w'=>w'.cell? ⟨g,off+m*6+2,none⟩=some (zi (d.state:Int))∧w'.cell? ⟨w.heap.size,m,none⟩=some (.bool (tk.getD m false))∧w'.cell? ⟨g,off+m*6+4,none⟩=some (zu (d.end_:Int))) (by kernel_rfl) ?_ (fun hHeld=>?_)
       · (try dsimp only);exact HC.out _ (HW.out.drew)
       refine zqt (i:=0) rfl hHeld ?_
       (try simp only[zqa,zqb,zqc,Act.put,zqd,zqe,zqf])
       refine zqt (i:=1) rfl hHeld ?_
       (try simp only[zqa,zqb,zqc,Act.put,zqd,zqe,zqf])
       refine zqt (i:=2) rfl hHeld ?_
       (try simp only[zqa,zqb,zqc,Act.put,zqd,zqe,zqf])
       refine zqt (i:=3) rfl hHeld ?_
       (try simp only[zqa,zqb,zqc,Act.put,zqd,zqe,zqf])
       refine zqt (i:=4) rfl hHeld ?_
       (try simp only[zqa,zqb,zqc,Act.put,zqd,zqe,zqf])
       refine zqt (i:=5) rfl hHeld ?_
       (try simp only[zqa,zqb,zqc,Act.put,zqd,zqe,zqf])
       refine zqt (i:=6) rfl hHeld ?_
       (try simp only[zqa,zqb,zqc,Act.put,zqd,zqe,zqf])
       refine wpAnyH_take (i:=7) (v:=undef) rfl (by kernel_rfl) (by kernel_rfl) (by kernel_rfl) (fun _ _ _ h=>h) (Or.inr ⟨by rfl,rfl⟩) hHeld ?_
       (try simp only[zqa,zqb,zqc,Act.put,zqd,zqe,zqf])
       refine wpAnyH_take (i:=8) (v:=undef) rfl (by kernel_rfl) (by kernel_rfl) (by kernel_rfl) (fun _ _ _ h=>h) (Or.inr ⟨by rfl,rfl⟩) hHeld ?_
       (try simp only[zqa,zqb,zqc,Act.put,zqd,zqe,zqf])
       refine wpAnyH_take (i:=9) (v:=undef) rfl (by kernel_rfl) (by kernel_rfl) (by kernel_rfl) (fun _ _ _ h=>h) (Or.inr ⟨by rfl,rfl⟩) hHeld ?_
       (try simp only[zqa,zqb,zqc,Act.put,zqd,zqe,zqf])
       refine zqt (i:=10) rfl hHeld ?_
       (try simp only[zqa,zqb,zqc,Act.put,zqd,zqe,zqf])
       refine zqt (i:=11) rfl hHeld ?_
       (try simp only[zqa,zqb,zqc,Act.put,zqd,zqe,zqf])
       refine wpAnyH_take (i:=12) (v:=undef) rfl (by kernel_rfl) (by kernel_rfl) (by kernel_rfl) (fun _ _ _ h=>h) (Or.inr ⟨by rfl,rfl⟩) hHeld ?_
       (try simp only[zqa,zqb,zqc,Act.put,zqd,zqe,zqf])
       refine wpAnyH_take (i:=13) (v:=undef) rfl (by kernel_rfl) (by kernel_rfl) (by kernel_rfl) (fun _ _ _ h=>h) (Or.inr ⟨by rfl,rfl⟩) hHeld ?_
       (try simp only[zqa,zqb,zqc,Act.put,zqd,zqe,zqf])
       refine wpAnyH_take (i:=14) (v:=undef) rfl (by kernel_rfl) (by kernel_rfl) (by kernel_rfl) (fun _ _ _ h=>h) (Or.inr ⟨by rfl,rfl⟩) hHeld ?_
       (try simp only[zqa,zqb,zqc,Act.put,zqd,zqe,zqf])
       refine wpAnyH_take (i:=15) (v:=undef) rfl (by kernel_rfl) (by kernel_rfl) (by kernel_rfl) (fun _ _ _ h=>h) (Or.inr ⟨by rfl,rfl⟩) hHeld ?_
       (try simp only[zqa,zqb,zqc,Act.put,zqd,zqe,zqf])
       refine wpAnyH_take (i:=16) (v:=undef) rfl (by kernel_rfl) (by kernel_rfl) (by kernel_rfl) (fun _ _ _ h=>h) (Or.inr ⟨by rfl,rfl⟩) hHeld ?_
       (try simp only[zqa,zqb,zqc,Act.put,zqd,zqe,zqf])
       refine zqt (i:=17) rfl hHeld ?_
       (try simp only[zqa,zqb,zqc,Act.put,zqd,zqe,zqf])
       refine zqt (i:=18) rfl hHeld ?_
       (try simp only[zqa,zqb,zqc,Act.put,zqd,zqe,zqf])
       refine wpAnyH_take (i:=19) (v:=undef) rfl (by kernel_rfl) (by kernel_rfl) (by kernel_rfl) (fun _ _ _ h=>h) (Or.inr ⟨by rfl,rfl⟩) hHeld ?_
       (try simp only[zqa,zqb,zqc,Act.put,zqd,zqe,zqf])
       refine wpAnyH_take (i:=20) (v:=undef) rfl (by kernel_rfl) (by kernel_rfl) (by kernel_rfl) (fun _ _ _ h=>h) (Or.inr ⟨by rfl,rfl⟩) hHeld ?_
       (try simp only[zqa,zqb,zqc,Act.put,zqd,zqe,zqf])
       refine wpAnyH_take (i:=21) (v:=undef) rfl (by kernel_rfl) (by kernel_rfl) (by kernel_rfl) (fun _ _ _ h=>h) (Or.inr ⟨by rfl,rfl⟩) hHeld ?_
       (try simp only[zqa,zqb,zqc,Act.put,zqd,zqe,zqf])
       refine wpAnyH_take (i:=22) (v:=undef) rfl (by kernel_rfl) (by kernel_rfl) (by kernel_rfl) (fun _ _ _ h=>h) (Or.inr ⟨by rfl,rfl⟩) hHeld ?_
       (try simp only[zqa,zqb,zqc,Act.put,zqd,zqe,zqf])
       refine wpAnyH_take (i:=23) (v:=undef) rfl (by kernel_rfl) (by kernel_rfl) (by kernel_rfl) (fun _ _ _ h=>h) (Or.inr ⟨by rfl,rfl⟩) hHeld ?_
       (try simp only[zqa,zqb,zqc,Act.put,zqd,zqe,zqf])
       refine wpAnyH_take (i:=24) (v:=undef) rfl (by kernel_rfl) (by kernel_rfl) (by kernel_rfl) (fun _ _ _ h=>h) (Or.inr ⟨by rfl,rfl⟩) hHeld ?_
       (try simp only[zqa,zqb,zqc,Act.put,zqd,zqe,zqf])
       refine wpAnyH_take (i:=25) (v:=undef) rfl (by kernel_rfl) (by kernel_rfl) (by kernel_rfl) (fun _ _ _ h=>h) (Or.inr ⟨by rfl,rfl⟩) hHeld ?_
       (try simp only[zqa,zqb,zqc,Act.put,zqd,zqe,zqf])
       refine zqt (i:=26) rfl hHeld ?_
       (try simp only[zqa,zqb,zqc,Act.put,zqd,zqe,zqf])
       refine zqt (i:=27) rfl hHeld ?_
       (try simp only[zqa,zqb,zqc,Act.put,zqd,zqe,zqf])
       refine wpAnyH_take (i:=28) (v:=undef) rfl (by kernel_rfl) (by kernel_rfl) (by kernel_rfl) (fun _ _ _ h=>h) (Or.inr ⟨by rfl,rfl⟩) hHeld ?_
       (try simp only[zqa,zqb,zqc,Act.put,zqd,zqe,zqf])
       refine wpAnyH_take (i:=29) (v:=undef) rfl (by kernel_rfl) (by kernel_rfl) (by kernel_rfl) (fun _ _ _ h=>h) (Or.inr ⟨by rfl,rfl⟩) hHeld ?_
       (try simp only[zqa,zqb,zqc,Act.put,zqd,zqe,zqf])
       refine wpAnyH_take (i:=30) (v:=undef) rfl (by kernel_rfl) (by kernel_rfl) (by kernel_rfl) (fun _ _ _ h=>h) (Or.inr ⟨by rfl,rfl⟩) hHeld ?_
       (try simp only[zqa,zqb,zqc,Act.put,zqd,zqe,zqf])
       refine wpAnyH_take (i:=31) (v:=undef) rfl (by kernel_rfl) (by kernel_rfl) (by kernel_rfl) (fun _ _ _ h=>h) (Or.inr ⟨by rfl,rfl⟩) hHeld ?_
       (try simp only[zqa,zqb,zqc,Act.put,zqd,zqe,zqf])
       refine wpAnyH_take (i:=32) (v:=undef) rfl (by kernel_rfl) (by kernel_rfl) (by kernel_rfl) (fun _ _ _ h=>h) (Or.inr ⟨by rfl,rfl⟩) hHeld ?_
       (try simp only[zqa,zqb,zqc,Act.put,zqd,zqe,zqf])
       refine wpAnyH_take (i:=33) (v:=undef) rfl (by kernel_rfl) (by kernel_rfl) (by kernel_rfl) (fun _ _ _ h=>h) (Or.inr ⟨by rfl,rfl⟩) hHeld ?_
       (try simp only[zqa,zqb,zqc,Act.put,zqd,zqe,zqf])
       refine wpAnyH_take (i:=34) (v:=undef) rfl (by kernel_rfl) (by kernel_rfl) (by kernel_rfl) (fun _ _ _ h=>h) (Or.inr ⟨by rfl,rfl⟩) hHeld ?_
       (try simp only[zqa,zqb,zqc,Act.put,zqd,zqe,zqf])
       refine wpAnyH_take (i:=35) (v:=undef) rfl (by kernel_rfl) (by kernel_rfl) (by kernel_rfl) (fun _ _ _ h=>h) (Or.inr ⟨by rfl,rfl⟩) hHeld ?_
       (try simp only[zqa,zqb,zqc,Act.put,zqd,zqe,zqf])
       refine wpAnyH_take (i:=36) (v:=undef) rfl (by kernel_rfl) (by kernel_rfl) (by kernel_rfl) (fun _ _ _ h=>h) (Or.inr ⟨by rfl,rfl⟩) hHeld ?_
       (try simp only[zqa,zqb,zqc,Act.put,zqd,zqe,zqf])
       refine wpAnyH_take (i:=37) (v:=undef) rfl (by kernel_rfl) (by kernel_rfl) (by kernel_rfl) (fun _ _ _ h=>h) (Or.inr ⟨by rfl,rfl⟩) hHeld ?_
       (try simp only[zqa,zqb,zqc,Act.put,zqd,zqe,zqf])
       refine wpAnyH_take (i:=38) (v:=undef) rfl (by kernel_rfl) (by kernel_rfl) (by kernel_rfl) (fun _ _ _ h=>h) (Or.inr ⟨by rfl,rfl⟩) hHeld ?_
       (try simp only[zqa,zqb,zqc,Act.put,zqd,zqe,zqf])
       refine wpAnyH_take (i:=39) (v:=undef) rfl (by kernel_rfl) (by kernel_rfl) (by kernel_rfl) (fun _ _ _ h=>h) (Or.inr ⟨by rfl,rfl⟩) hHeld ?_
       (try simp only[zqa,zqb,zqc,Act.put,zqd,zqe,zqf])
       refine wpAnyH_take (i:=40) (v:=undef) rfl (by kernel_rfl) (by kernel_rfl) (by kernel_rfl) (fun _ _ _ h=>h) (Or.inr ⟨by rfl,rfl⟩) hHeld ?_
       (try simp only[zqa,zqb,zqc,Act.put,zqd,zqe,zqf])
       refine wpAnyH_take (i:=41) (v:=undef) rfl (by kernel_rfl) (by kernel_rfl) (by kernel_rfl) (fun _ _ _ h=>h) (Or.inr ⟨by rfl,rfl⟩) hHeld ?_
       (try simp only[zqa,zqb,zqc,Act.put,zqd,zqe,zqf])
       refine wpAnyH_take (i:=42) (v:=undef) rfl (by kernel_rfl) (by kernel_rfl) (by kernel_rfl) (fun _ _ _ h=>h) (Or.inr ⟨by rfl,rfl⟩) hHeld ?_
       (try simp only[zqa,zqb,zqc,Act.put,zqd,zqe,zqf])
       refine zqt (i:=43) rfl hHeld ?_
       (try simp only[zqa,zqb,zqc,Act.put,zqd,zqe,zqf])
       refine wpAnyH_done (by kernel_rfl) ?_ _;go_wp2
       go_roundw
       case rel=>rw[HPK.out];exact HEND.out _ HP.out
       case measure=>have:=HB2.out;simp[intOf];omega
     have s1:((d.state:Int)=3)=True:=by simp[h3]
     have s2:((d.state:Int)==3)=true:=by simp[h3]
     have s3:decide ((d.state:Int)=3)=true:=by simp[h3]
     by_cases hmb:m=but
     · have HP:=zH (p1 (.inr (.inl hmb)))
       have HPK:=zH hpk;have t0:(m:Int)=b:=hbm.2 hmb;have t1:((m:Int)=b)=True:=by simp[t0]
       have t2:((m:Int)==b)=true:=by simp[t0]
       have t3:((m:Int) !=b)=false:=by simp[t0]
       clear h3 hmb hpk t0 p1 p2 hbm hd;go_upto_region 7 with fail
       refine wp_region_held_drew (S:=fun w'=>w'.cell? ⟨g,off+m*6+2,none⟩=some (zi (d.state:Int))∧w'.cell? ⟨w.heap.size,m,none⟩=some (.bool (tk.getD m false))∧w'.cell? ⟨g,off+m*6+4,none⟩=some (zu (d.end_:Int))) (by kernel_rfl) ?_ (fun hHeld=>?_)
       · (try dsimp only);exact HC.out _ (HW.out.drew)
       refine zqt (i:=0) rfl hHeld ?_
       (try simp only[zqa,zqb,zqc,Act.put,zqd,zqe,zqf])
       refine zqt (i:=1) rfl hHeld ?_
       (try simp only[zqa,zqb,zqc,Act.put,zqd,zqe,zqf])
       refine zqt (i:=2) rfl hHeld ?_
       (try simp only[zqa,zqb,zqc,Act.put,zqd,zqe,zqf])
       refine zqt (i:=3) rfl hHeld ?_
       (try simp only[zqa,zqb,zqc,Act.put,zqd,zqe,zqf])
       refine zqt (i:=4) rfl hHeld ?_
       (try simp only[zqa,zqb,zqc,Act.put,zqd,zqe,zqf])
       refine zqt (i:=5) rfl hHeld ?_
       (try simp only[zqa,zqb,zqc,Act.put,zqd,zqe,zqf])
       refine zqt (i:=6) rfl hHeld ?_
       (try simp only[zqa,zqb,zqc,Act.put,zqd,zqe,zqf])
       refine zqt (i:=7) rfl hHeld ?_
       (try simp only[zqa,zqb,zqc,Act.put,zqd,zqe,zqf])
       refine zqt (i:=8) rfl hHeld ?_
       (try simp only[zqa,zqb,zqc,Act.put,zqd,zqe,zqf])
       refine zqt (i:=9) rfl hHeld ?_
       (try simp only[zqa,zqb,zqc,Act.put,zqd,zqe,zqf])
       refine zqt (i:=10) rfl hHeld ?_
       (try simp only[zqa,zqb,zqc,Act.put,zqd,zqe,zqf])
       refine zqt (i:=11) rfl hHeld ?_
       (try simp only[zqa,zqb,zqc,Act.put,zqd,zqe,zqf])
       refine wpAnyH_take (i:=12) (v:=undef) rfl (by kernel_rfl) (by kernel_rfl) (by kernel_rfl) (fun _ _ _ h=>h) (Or.inr ⟨by rfl,rfl⟩) hHeld ?_
       (try simp only[zqa,zqb,zqc,Act.put,zqd,zqe,zqf])
       refine wpAnyH_take (i:=13) (v:=undef) rfl (by kernel_rfl) (by kernel_rfl) (by kernel_rfl) (fun _ _ _ h=>h) (Or.inr ⟨by rfl,rfl⟩) hHeld ?_
       (try simp only[zqa,zqb,zqc,Act.put,zqd,zqe,zqf])
       refine wpAnyH_take (i:=14) (v:=undef) rfl (by kernel_rfl) (by kernel_rfl) (by kernel_rfl) (fun _ _ _ h=>h) (Or.inr ⟨by rfl,rfl⟩) hHeld ?_
       (try simp only[zqa,zqb,zqc,Act.put,zqd,zqe,zqf])
       refine wpAnyH_take (i:=15) (v:=undef) rfl (by kernel_rfl) (by kernel_rfl) (by kernel_rfl) (fun _ _ _ h=>h) (Or.inr ⟨by rfl,rfl⟩) hHeld ?_
       (try simp only[zqa,zqb,zqc,Act.put,zqd,zqe,zqf])
       refine wpAnyH_take (i:=16) (v:=undef) rfl (by kernel_rfl) (by kernel_rfl) (by kernel_rfl) (fun _ _ _ h=>h) (Or.inr ⟨by rfl,rfl⟩) hHeld ?_
       (try simp only[zqa,zqb,zqc,Act.put,zqd,zqe,zqf])
       refine zqt (i:=17) rfl hHeld ?_
       (try simp only[zqa,zqb,zqc,Act.put,zqd,zqe,zqf])
       refine zqt (i:=18) rfl hHeld ?_
       (try simp only[zqa,zqb,zqc,Act.put,zqd,zqe,zqf])
       refine wpAnyH_take (i:=19) (v:=undef) rfl (by kernel_rfl) (by kernel_rfl) (by kernel_rfl) (fun _ _ _ h=>h) (Or.inr ⟨by rfl,rfl⟩) hHeld ?_
       (try simp only[zqa,zqb,zqc,Act.put,zqd,zqe,zqf])
       refine wpAnyH_take (i:=20) (v:=undef) rfl (by kernel_rfl) (by kernel_rfl) (by kernel_rfl) (fun _ _ _ h=>h) (Or.inr ⟨by rfl,rfl⟩) hHeld ?_
       (try simp only[zqa,zqb,zqc,Act.put,zqd,zqe,zqf])
       refine wpAnyH_take (i:=21) (v:=undef) rfl (by kernel_rfl) (by kernel_rfl) (by kernel_rfl) (fun _ _ _ h=>h) (Or.inr ⟨by rfl,rfl⟩) hHeld ?_
       (try simp only[zqa,zqb,zqc,Act.put,zqd,zqe,zqf])
       refine wpAnyH_take (i:=22) (v:=undef) rfl (by kernel_rfl) (by kernel_rfl) (by kernel_rfl) (fun _ _ _ h=>h) (Or.inr ⟨by rfl,rfl⟩) hHeld ?_
       (try simp only[zqa,zqb,zqc,Act.put,zqd,zqe,zqf])
       refine wpAnyH_take (i:=23) (v:=undef) rfl (by kernel_rfl) (by kernel_rfl) (by kernel_rfl) (fun _ _ _ h=>h) (Or.inr ⟨by rfl,rfl⟩) hHeld ?_
       (try simp only[zqa,zqb,zqc,Act.put,zqd,zqe,zqf])
       refine wpAnyH_take (i:=24) (v:=undef) rfl (by kernel_rfl) (by kernel_rfl) (by kernel_rfl) (fun _ _ _ h=>h) (Or.inr ⟨by rfl,rfl⟩) hHeld ?_
       (try simp only[zqa,zqb,zqc,Act.put,zqd,zqe,zqf])
       refine wpAnyH_take (i:=25) (v:=undef) rfl (by kernel_rfl) (by kernel_rfl) (by kernel_rfl) (fun _ _ _ h=>h) (Or.inr ⟨by rfl,rfl⟩) hHeld ?_
       (try simp only[zqa,zqb,zqc,Act.put,zqd,zqe,zqf])
       refine zqt (i:=26) rfl hHeld ?_
       (try simp only[zqa,zqb,zqc,Act.put,zqd,zqe,zqf])
       refine zqt (i:=27) rfl hHeld ?_
       (try simp only[zqa,zqb,zqc,Act.put,zqd,zqe,zqf])
       refine wpAnyH_take (i:=28) (v:=undef) rfl (by kernel_rfl) (by kernel_rfl) (by kernel_rfl) (fun _ _ _ h=>h) (Or.inr ⟨by rfl,rfl⟩) hHeld ?_
       (try simp only[zqa,zqb,zqc,Act.put,zqd,zqe,zqf])
       refine wpAnyH_take (i:=29) (v:=undef) rfl (by kernel_rfl) (by kernel_rfl) (by kernel_rfl) (fun _ _ _ h=>h) (Or.inr ⟨by rfl,rfl⟩) hHeld ?_
       (try simp only[zqa,zqb,zqc,Act.put,zqd,zqe,zqf])
       refine wpAnyH_take (i:=30) (v:=undef) rfl (by kernel_rfl) (by kernel_rfl) (by kernel_rfl) (fun _ _ _ h=>h) (Or.inr ⟨by rfl,rfl⟩) hHeld ?_
       (try simp only[zqa,zqb,zqc,Act.put,zqd,zqe,zqf])
       refine wpAnyH_take (i:=31) (v:=undef) rfl (by kernel_rfl) (by kernel_rfl) (by kernel_rfl) (fun _ _ _ h=>h) (Or.inr ⟨by rfl,rfl⟩) hHeld ?_
       (try simp only[zqa,zqb,zqc,Act.put,zqd,zqe,zqf])
       refine wpAnyH_take (i:=32) (v:=undef) rfl (by kernel_rfl) (by kernel_rfl) (by kernel_rfl) (fun _ _ _ h=>h) (Or.inr ⟨by rfl,rfl⟩) hHeld ?_
       (try simp only[zqa,zqb,zqc,Act.put,zqd,zqe,zqf])
       refine wpAnyH_take (i:=33) (v:=undef) rfl (by kernel_rfl) (by kernel_rfl) (by kernel_rfl) (fun _ _ _ h=>h) (Or.inr ⟨by rfl,rfl⟩) hHeld ?_
       (try simp only[zqa,zqb,zqc,Act.put,zqd,zqe,zqf])
       refine wpAnyH_take (i:=34) (v:=undef) rfl (by kernel_rfl) (by kernel_rfl) (by kernel_rfl) (fun _ _ _ h=>h) (Or.inr ⟨by rfl,rfl⟩) hHeld ?_
       (try simp only[zqa,zqb,zqc,Act.put,zqd,zqe,zqf])
       refine wpAnyH_take (i:=35) (v:=undef) rfl (by kernel_rfl) (by kernel_rfl) (by kernel_rfl) (fun _ _ _ h=>h) (Or.inr ⟨by rfl,rfl⟩) hHeld ?_
       (try simp only[zqa,zqb,zqc,Act.put,zqd,zqe,zqf])
       refine wpAnyH_take (i:=36) (v:=undef) rfl (by kernel_rfl) (by kernel_rfl) (by kernel_rfl) (fun _ _ _ h=>h) (Or.inr ⟨by rfl,rfl⟩) hHeld ?_
       (try simp only[zqa,zqb,zqc,Act.put,zqd,zqe,zqf])
       refine wpAnyH_take (i:=37) (v:=undef) rfl (by kernel_rfl) (by kernel_rfl) (by kernel_rfl) (fun _ _ _ h=>h) (Or.inr ⟨by rfl,rfl⟩) hHeld ?_
       (try simp only[zqa,zqb,zqc,Act.put,zqd,zqe,zqf])
       refine wpAnyH_take (i:=38) (v:=undef) rfl (by kernel_rfl) (by kernel_rfl) (by kernel_rfl) (fun _ _ _ h=>h) (Or.inr ⟨by rfl,rfl⟩) hHeld ?_
       (try simp only[zqa,zqb,zqc,Act.put,zqd,zqe,zqf])
       refine wpAnyH_take (i:=39) (v:=undef) rfl (by kernel_rfl) (by kernel_rfl) (by kernel_rfl) (fun _ _ _ h=>h) (Or.inr ⟨by rfl,rfl⟩) hHeld ?_
       (try simp only[zqa,zqb,zqc,Act.put,zqd,zqe,zqf])
       refine wpAnyH_take (i:=40) (v:=undef) rfl (by kernel_rfl) (by kernel_rfl) (by kernel_rfl) (fun _ _ _ h=>h) (Or.inr ⟨by rfl,rfl⟩) hHeld ?_
       (try simp only[zqa,zqb,zqc,Act.put,zqd,zqe,zqf])
       refine wpAnyH_take (i:=41) (v:=undef) rfl (by kernel_rfl) (by kernel_rfl) (by kernel_rfl) (fun _ _ _ h=>h) (Or.inr ⟨by rfl,rfl⟩) hHeld ?_
       (try simp only[zqa,zqb,zqc,Act.put,zqd,zqe,zqf])
       refine wpAnyH_take (i:=42) (v:=undef) rfl (by kernel_rfl) (by kernel_rfl) (by kernel_rfl) (fun _ _ _ h=>h) (Or.inr ⟨by rfl,rfl⟩) hHeld ?_
       (try simp only[zqa,zqb,zqc,Act.put,zqd,zqe,zqf])
       refine zqt (i:=43) rfl hHeld ?_
       (try simp only[zqa,zqb,zqc,Act.put,zqd,zqe,zqf])
       refine wpAnyH_done (by kernel_rfl) ?_ _;go_wp2
       go_roundw
       case rel=>rw[HPK.out];exact HEND.out _ HP.out
       case measure=>have:=HB2.out;simp[intOf];omega
     have t0:¬ ((m:Int)=b):=fun x=>hmb (hbm.1 x)
     have t1:((m:Int)=b)=False:=by simp[t0]
     have t2:((m:Int)==b)=false:=by simp[t0]
     have t3:((m:Int) !=b)=true:=by simp[t0]
     clear t0
     cases htk:tk.getD m false with
     |true=>
      have HP:=zH (p1 (.inr (.inr (.inl htk))));have HPK:=zH hpk;rw[htk] at HC;clear h3 hmb htk hpk p1 p2 hbm hd;go_upto_region 7 with fail
      refine wp_region_held_drew (S:=fun w'=>w'.cell? ⟨g,off+m*6+2,none⟩=some (zi (d.state:Int))∧w'.cell? ⟨w.heap.size,m,none⟩=some (.bool true)∧w'.cell? ⟨g,off+m*6+4,none⟩=some (zu (d.end_:Int))) (by kernel_rfl) ?_ (fun hHeld=>?_)
      · (try dsimp only);exact HC.out _ (HW.out.drew)
      refine zqt (i:=0) rfl hHeld ?_
      (try simp only[zqa,zqb,zqc,Act.put,zqd,zqe,zqf])
      refine zqt (i:=1) rfl hHeld ?_
      (try simp only[zqa,zqb,zqc,Act.put,zqd,zqe,zqf])
      refine zqt (i:=2) rfl hHeld ?_
      (try simp only[zqa,zqb,zqc,Act.put,zqd,zqe,zqf])
      refine zqt (i:=3) rfl hHeld ?_
      (try simp only[zqa,zqb,zqc,Act.put,zqd,zqe,zqf])
      refine zqt (i:=4) rfl hHeld ?_
      (try simp only[zqa,zqb,zqc,Act.put,zqd,zqe,zqf])
      refine zqt (i:=5) rfl hHeld ?_
      (try simp only[zqa,zqb,zqc,Act.put,zqd,zqe,zqf])
      refine zqt (i:=6) rfl hHeld ?_
      (try simp only[zqa,zqb,zqc,Act.put,zqd,zqe,zqf])
      refine zqt (i:=7) rfl hHeld ?_
      (try simp only[zqa,zqb,zqc,Act.put,zqd,zqe,zqf])
      refine zqt (i:=8) rfl hHeld ?_
      (try simp only[zqa,zqb,zqc,Act.put,zqd,zqe,zqf])
      refine zqt (i:=9) rfl hHeld ?_
      (try simp only[zqa,zqb,zqc,Act.put,zqd,zqe,zqf])
      refine zqt (i:=10) rfl hHeld ?_
      (try simp only[zqa,zqb,zqc,Act.put,zqd,zqe,zqf])
      refine zqt (i:=11) rfl hHeld ?_
      (try simp only[zqa,zqb,zqc,Act.put,zqd,zqe,zqf])
      refine zqt (i:=12) rfl hHeld ?_
      (try simp only[zqa,zqb,zqc,Act.put,zqd,zqe,zqf])
      refine zqt (i:=13) rfl hHeld ?_
      (try simp only[zqa,zqb,zqc,Act.put,zqd,zqe,zqf])
      refine zqt (i:=14) rfl hHeld ?_
      (try simp only[zqa,zqb,zqc,Act.put,zqd,zqe,zqf])
      refine zqt (i:=15) rfl hHeld ?_
      (try simp only[zqa,zqb,zqc,Act.put,zqd,zqe,zqf])
      refine zqt (i:=16) rfl hHeld ?_
      (try simp only[zqa,zqb,zqc,Act.put,zqd,zqe,zqf])
      refine zqt (i:=17) rfl hHeld ?_
      (try simp only[zqa,zqb,zqc,Act.put,zqd,zqe,zqf])
      refine zqt (i:=18) rfl hHeld ?_
      (try simp only[zqa,zqb,zqc,Act.put,zqd,zqe,zqf])
      refine wpAnyH_take (i:=19) (v:=undef) rfl (by kernel_rfl) (by kernel_rfl) (by kernel_rfl) (fun _ _ _ h=>h) (Or.inr ⟨by rfl,rfl⟩) hHeld ?_
      (try simp only[zqa,zqb,zqc,Act.put,zqd,zqe,zqf])
      refine wpAnyH_take (i:=20) (v:=undef) rfl (by kernel_rfl) (by kernel_rfl) (by kernel_rfl) (fun _ _ _ h=>h) (Or.inr ⟨by rfl,rfl⟩) hHeld ?_
      (try simp only[zqa,zqb,zqc,Act.put,zqd,zqe,zqf])
      refine wpAnyH_take (i:=21) (v:=undef) rfl (by kernel_rfl) (by kernel_rfl) (by kernel_rfl) (fun _ _ _ h=>h) (Or.inr ⟨by rfl,rfl⟩) hHeld ?_
      (try simp only[zqa,zqb,zqc,Act.put,zqd,zqe,zqf])
      refine wpAnyH_take (i:=22) (v:=undef) rfl (by kernel_rfl) (by kernel_rfl) (by kernel_rfl) (fun _ _ _ h=>h) (Or.inr ⟨by rfl,rfl⟩) hHeld ?_
      (try simp only[zqa,zqb,zqc,Act.put,zqd,zqe,zqf])
      refine wpAnyH_take (i:=23) (v:=undef) rfl (by kernel_rfl) (by kernel_rfl) (by kernel_rfl) (fun _ _ _ h=>h) (Or.inr ⟨by rfl,rfl⟩) hHeld ?_
      (try simp only[zqa,zqb,zqc,Act.put,zqd,zqe,zqf])
      refine wpAnyH_take (i:=24) (v:=undef) rfl (by kernel_rfl) (by kernel_rfl) (by kernel_rfl) (fun _ _ _ h=>h) (Or.inr ⟨by rfl,rfl⟩) hHeld ?_
      (try simp only[zqa,zqb,zqc,Act.put,zqd,zqe,zqf])
      refine wpAnyH_take (i:=25) (v:=undef) rfl (by kernel_rfl) (by kernel_rfl) (by kernel_rfl) (fun _ _ _ h=>h) (Or.inr ⟨by rfl,rfl⟩) hHeld ?_
      (try simp only[zqa,zqb,zqc,Act.put,zqd,zqe,zqf])
      refine zqt (i:=26) rfl hHeld ?_
      (try simp only[zqa,zqb,zqc,Act.put,zqd,zqe,zqf])
      refine zqt (i:=27) rfl hHeld ?_
      (try simp only[zqa,zqb,zqc,Act.put,zqd,zqe,zqf])
      refine wpAnyH_take (i:=28) (v:=undef) rfl (by kernel_rfl) (by kernel_rfl) (by kernel_rfl) (fun _ _ _ h=>h) (Or.inr ⟨by rfl,rfl⟩) hHeld ?_
      (try simp only[zqa,zqb,zqc,Act.put,zqd,zqe,zqf])
      refine wpAnyH_take (i:=29) (v:=undef) rfl (by kernel_rfl) (by kernel_rfl) (by kernel_rfl) (fun _ _ _ h=>h) (Or.inr ⟨by rfl,rfl⟩) hHeld ?_
      (try simp only[zqa,zqb,zqc,Act.put,zqd,zqe,zqf])
      refine wpAnyH_take (i:=30) (v:=undef) rfl (by kernel_rfl) (by kernel_rfl) (by kernel_rfl) (fun _ _ _ h=>h) (Or.inr ⟨by rfl,rfl⟩) hHeld ?_
      (try simp only[zqa,zqb,zqc,Act.put,zqd,zqe,zqf])
      refine wpAnyH_take (i:=31) (v:=undef) rfl (by kernel_rfl) (by kernel_rfl) (by kernel_rfl) (fun _ _ _ h=>h) (Or.inr ⟨by rfl,rfl⟩) hHeld ?_
      (try simp only[zqa,zqb,zqc,Act.put,zqd,zqe,zqf])
      refine wpAnyH_take (i:=32) (v:=undef) rfl (by kernel_rfl) (by kernel_rfl) (by kernel_rfl) (fun _ _ _ h=>h) (Or.inr ⟨by rfl,rfl⟩) hHeld ?_
      (try simp only[zqa,zqb,zqc,Act.put,zqd,zqe,zqf])
      refine wpAnyH_take (i:=33) (v:=undef) rfl (by kernel_rfl) (by kernel_rfl) (by kernel_rfl) (fun _ _ _ h=>h) (Or.inr ⟨by rfl,rfl⟩) hHeld ?_
      (try simp only[zqa,zqb,zqc,Act.put,zqd,zqe,zqf])
      refine wpAnyH_take (i:=34) (v:=undef) rfl (by kernel_rfl) (by kernel_rfl) (by kernel_rfl) (fun _ _ _ h=>h) (Or.inr ⟨by rfl,rfl⟩) hHeld ?_
      (try simp only[zqa,zqb,zqc,Act.put,zqd,zqe,zqf])
      refine wpAnyH_take (i:=35) (v:=undef) rfl (by kernel_rfl) (by kernel_rfl) (by kernel_rfl) (fun _ _ _ h=>h) (Or.inr ⟨by rfl,rfl⟩) hHeld ?_
      (try simp only[zqa,zqb,zqc,Act.put,zqd,zqe,zqf])
      refine wpAnyH_take (i:=36) (v:=undef) rfl (by kernel_rfl) (by kernel_rfl) (by kernel_rfl) (fun _ _ _ h=>h) (Or.inr ⟨by rfl,rfl⟩) hHeld ?_
      (try simp only[zqa,zqb,zqc,Act.put,zqd,zqe,zqf])
      refine wpAnyH_take (i:=37) (v:=undef) rfl (by kernel_rfl) (by kernel_rfl) (by kernel_rfl) (fun _ _ _ h=>h) (Or.inr ⟨by rfl,rfl⟩) hHeld ?_
      (try simp only[zqa,zqb,zqc,Act.put,zqd,zqe,zqf])
      refine wpAnyH_take (i:=38) (v:=undef) rfl (by kernel_rfl) (by kernel_rfl) (by kernel_rfl) (fun _ _ _ h=>h) (Or.inr ⟨by rfl,rfl⟩) hHeld ?_
      (try simp only[zqa,zqb,zqc,Act.put,zqd,zqe,zqf])
      refine wpAnyH_take (i:=39) (v:=undef) rfl (by kernel_rfl) (by kernel_rfl) (by kernel_rfl) (fun _ _ _ h=>h) (Or.inr ⟨by rfl,rfl⟩) hHeld ?_
      (try simp only[zqa,zqb,zqc,Act.put,zqd,zqe,zqf])
      refine wpAnyH_take (i:=40) (v:=undef) rfl (by kernel_rfl) (by kernel_rfl) (by kernel_rfl) (fun _ _ _ h=>h) (Or.inr ⟨by rfl,rfl⟩) hHeld ?_
      (try simp only[zqa,zqb,zqc,Act.put,zqd,zqe,zqf])
      refine wpAnyH_take (i:=41) (v:=undef) rfl (by kernel_rfl) (by kernel_rfl) (by kernel_rfl) (fun _ _ _ h=>h) (Or.inr ⟨by rfl,rfl⟩) hHeld ?_
      (try simp only[zqa,zqb,zqc,Act.put,zqd,zqe,zqf])
      refine wpAnyH_take (i:=42) (v:=undef) rfl (by kernel_rfl) (by kernel_rfl) (by kernel_rfl) (fun _ _ _ h=>h) (Or.inr ⟨by rfl,rfl⟩) hHeld ?_
      (try simp only[zqa,zqb,zqc,Act.put,zqd,zqe,zqf])
      refine zqt (i:=43) rfl hHeld ?_
      (try simp only[zqa,zqb,zqc,Act.put,zqd,zqe,zqf])
      refine wpAnyH_done (by kernel_rfl) ?_ _;go_wp2
      go_roundw
      case rel=>rw[HPK.out];exact HEND.out _ HP.out
      case measure=>have:=HB2.out;simp[intOf];omega
     |false=>
      rw[htk] at HC
      by_cases hea:d.end_≤at_
      rotate_left
      · have HP:=zH (p1 (.inr (.inr (.inr (by omega)))))
        have HPK:=zH hpk;have u1:((d.end_:Int)≤(at_:Int))=False:=by simp;omega
        have u2:decide ((d.end_:Int)≤(at_:Int))=false:=by simp;omega
        have u3:(d.end_≤at_)=False:=by simp;omega
        have u4:decide (d.end_≤at_)=false:=by simp;omega
        clear h3 hmb htk hea hpk p1 p2 hbm hd;go_upto_region 7 with fail
        refine wp_region_held_drew (S:=fun w'=>w'.cell? ⟨g,off+m*6+2,none⟩=some (zi (d.state:Int))∧w'.cell? ⟨w.heap.size,m,none⟩=some (.bool false)∧w'.cell? ⟨g,off+m*6+4,none⟩=some (zu (d.end_:Int))) (by kernel_rfl) ?_ (fun hHeld=>?_)
        · (try dsimp only);exact HC.out _ (HW.out.drew)
        refine zqt (i:=0) rfl hHeld ?_
        (try simp only[zqa,zqb,zqc,Act.put,zqd,zqe,zqf])
        refine zqt (i:=1) rfl hHeld ?_
        (try simp only[zqa,zqb,zqc,Act.put,zqd,zqe,zqf])
        refine zqt (i:=2) rfl hHeld ?_
        (try simp only[zqa,zqb,zqc,Act.put,zqd,zqe,zqf])
        refine zqt (i:=3) rfl hHeld ?_
        (try simp only[zqa,zqb,zqc,Act.put,zqd,zqe,zqf])
        refine zqt (i:=4) rfl hHeld ?_
        (try simp only[zqa,zqb,zqc,Act.put,zqd,zqe,zqf])
        refine zqt (i:=5) rfl hHeld ?_
        (try simp only[zqa,zqb,zqc,Act.put,zqd,zqe,zqf])
        refine zqt (i:=6) rfl hHeld ?_
        (try simp only[zqa,zqb,zqc,Act.put,zqd,zqe,zqf])
        refine zqt (i:=7) rfl hHeld ?_
        (try simp only[zqa,zqb,zqc,Act.put,zqd,zqe,zqf])
        refine zqt (i:=8) rfl hHeld ?_
        (try simp only[zqa,zqb,zqc,Act.put,zqd,zqe,zqf])
        refine zqt (i:=9) rfl hHeld ?_
        (try simp only[zqa,zqb,zqc,Act.put,zqd,zqe,zqf])
        refine zqt (i:=10) rfl hHeld ?_
        (try simp only[zqa,zqb,zqc,Act.put,zqd,zqe,zqf])
        refine zqt (i:=11) rfl hHeld ?_
        (try simp only[zqa,zqb,zqc,Act.put,zqd,zqe,zqf])
        refine zqt (i:=12) rfl hHeld ?_
        (try simp only[zqa,zqb,zqc,Act.put,zqd,zqe,zqf])
        refine zqt (i:=13) rfl hHeld ?_
        (try simp only[zqa,zqb,zqc,Act.put,zqd,zqe,zqf])
        refine zqt (i:=14) rfl hHeld ?_
        (try simp only[zqa,zqb,zqc,Act.put,zqd,zqe,zqf])
        refine zqt (i:=15) rfl hHeld ?_
        (try simp only[zqa,zqb,zqc,Act.put,zqd,zqe,zqf])
        refine zqt (i:=16) rfl hHeld ?_
        (try simp only[zqa,zqb,zqc,Act.put,zqd,zqe,zqf])
        refine zqt (i:=17) rfl hHeld ?_
        (try simp only[zqa,zqb,zqc,Act.put,zqd,zqe,zqf])
        refine zqt (i:=18) rfl hHeld ?_
        (try simp only[zqa,zqb,zqc,Act.put,zqd,zqe,zqf])
        refine zqt (i:=19) rfl hHeld ?_
        (try simp only[zqa,zqb,zqc,Act.put,zqd,zqe,zqf])
        refine zqt (i:=20) rfl hHeld ?_
        (try simp only[zqa,zqb,zqc,Act.put,zqd,zqe,zqf])
        refine zqt (i:=21) rfl hHeld ?_
        (try simp only[zqa,zqb,zqc,Act.put,zqd,zqe,zqf])
        refine zqt (i:=22) rfl hHeld ?_
        (try simp only[zqa,zqb,zqc,Act.put,zqd,zqe,zqf])
        refine zqt (i:=23) rfl hHeld ?_
        (try simp only[zqa,zqb,zqc,Act.put,zqd,zqe,zqf])
        refine zqt (i:=24) rfl hHeld ?_
        (try simp only[zqa,zqb,zqc,Act.put,zqd,zqe,zqf])
        refine zqt (i:=25) rfl hHeld ?_
        (try simp only[zqa,zqb,zqc,Act.put,zqd,zqe,zqf])
        refine zqt (i:=26) rfl hHeld ?_
        (try simp only[zqa,zqb,zqc,Act.put,zqd,zqe,zqf])
        refine zqt (i:=27) rfl hHeld ?_
        (try simp only[zqa,zqb,zqc,Act.put,zqd,zqe,zqf])
        refine wpAnyH_take (i:=28) (v:=undef) rfl (by kernel_rfl) (by kernel_rfl) (by kernel_rfl) (fun _ _ _ h=>h) (Or.inr ⟨by rfl,rfl⟩) hHeld ?_
        (try simp only[zqa,zqb,zqc,Act.put,zqd,zqe,zqf])
        refine wpAnyH_take (i:=29) (v:=undef) rfl (by kernel_rfl) (by kernel_rfl) (by kernel_rfl) (fun _ _ _ h=>h) (Or.inr ⟨by rfl,rfl⟩) hHeld ?_
        (try simp only[zqa,zqb,zqc,Act.put,zqd,zqe,zqf])
        refine wpAnyH_take (i:=30) (v:=undef) rfl (by kernel_rfl) (by kernel_rfl) (by kernel_rfl) (fun _ _ _ h=>h) (Or.inr ⟨by rfl,rfl⟩) hHeld ?_
        (try simp only[zqa,zqb,zqc,Act.put,zqd,zqe,zqf])
        refine wpAnyH_take (i:=31) (v:=undef) rfl (by kernel_rfl) (by kernel_rfl) (by kernel_rfl) (fun _ _ _ h=>h) (Or.inr ⟨by rfl,rfl⟩) hHeld ?_
        (try simp only[zqa,zqb,zqc,Act.put,zqd,zqe,zqf])
        refine wpAnyH_take (i:=32) (v:=undef) rfl (by kernel_rfl) (by kernel_rfl) (by kernel_rfl) (fun _ _ _ h=>h) (Or.inr ⟨by rfl,rfl⟩) hHeld ?_
        (try simp only[zqa,zqb,zqc,Act.put,zqd,zqe,zqf])
        refine wpAnyH_take (i:=33) (v:=undef) rfl (by kernel_rfl) (by kernel_rfl) (by kernel_rfl) (fun _ _ _ h=>h) (Or.inr ⟨by rfl,rfl⟩) hHeld ?_
        (try simp only[zqa,zqb,zqc,Act.put,zqd,zqe,zqf])
        refine wpAnyH_take (i:=34) (v:=undef) rfl (by kernel_rfl) (by kernel_rfl) (by kernel_rfl) (fun _ _ _ h=>h) (Or.inr ⟨by rfl,rfl⟩) hHeld ?_
        (try simp only[zqa,zqb,zqc,Act.put,zqd,zqe,zqf])
        refine wpAnyH_take (i:=35) (v:=undef) rfl (by kernel_rfl) (by kernel_rfl) (by kernel_rfl) (fun _ _ _ h=>h) (Or.inr ⟨by rfl,rfl⟩) hHeld ?_
        (try simp only[zqa,zqb,zqc,Act.put,zqd,zqe,zqf])
        refine wpAnyH_take (i:=36) (v:=undef) rfl (by kernel_rfl) (by kernel_rfl) (by kernel_rfl) (fun _ _ _ h=>h) (Or.inr ⟨by rfl,rfl⟩) hHeld ?_
        (try simp only[zqa,zqb,zqc,Act.put,zqd,zqe,zqf])
        refine wpAnyH_take (i:=37) (v:=undef) rfl (by kernel_rfl) (by kernel_rfl) (by kernel_rfl) (fun _ _ _ h=>h) (Or.inr ⟨by rfl,rfl⟩) hHeld ?_
        (try simp only[zqa,zqb,zqc,Act.put,zqd,zqe,zqf])
        refine wpAnyH_take (i:=38) (v:=undef) rfl (by kernel_rfl) (by kernel_rfl) (by kernel_rfl) (fun _ _ _ h=>h) (Or.inr ⟨by rfl,rfl⟩) hHeld ?_
        (try simp only[zqa,zqb,zqc,Act.put,zqd,zqe,zqf])
        refine wpAnyH_take (i:=39) (v:=undef) rfl (by kernel_rfl) (by kernel_rfl) (by kernel_rfl) (fun _ _ _ h=>h) (Or.inr ⟨by rfl,rfl⟩) hHeld ?_
        (try simp only[zqa,zqb,zqc,Act.put,zqd,zqe,zqf])
        refine wpAnyH_take (i:=40) (v:=undef) rfl (by kernel_rfl) (by kernel_rfl) (by kernel_rfl) (fun _ _ _ h=>h) (Or.inr ⟨by rfl,rfl⟩) hHeld ?_
        (try simp only[zqa,zqb,zqc,Act.put,zqd,zqe,zqf])
        refine wpAnyH_take (i:=41) (v:=undef) rfl (by kernel_rfl) (by kernel_rfl) (by kernel_rfl) (fun _ _ _ h=>h) (Or.inr ⟨by rfl,rfl⟩) hHeld ?_
        (try simp only[zqa,zqb,zqc,Act.put,zqd,zqe,zqf])
        refine wpAnyH_take (i:=42) (v:=undef) rfl (by kernel_rfl) (by kernel_rfl) (by kernel_rfl) (fun _ _ _ h=>h) (Or.inr ⟨by rfl,rfl⟩) hHeld ?_
        (try simp only[zqa,zqb,zqc,Act.put,zqd,zqe,zqf])
        refine zqt (i:=43) rfl hHeld ?_
        (try simp only[zqa,zqb,zqc,Act.put,zqd,zqe,zqf])
        refine wpAnyH_done (by kernel_rfl) ?_ _;go_wp2
        go_roundw
        case rel=>rw[HPK.out];exact HEND.out _ HP.out
        case measure=>have:=HB2.out;simp[intOf];omega
      have u1:((d.end_:Int)≤(at_:Int))=True:=by simp;omega
      have u2:decide ((d.end_:Int)≤(at_:Int))=true:=by simp;omega
      have u3:(d.end_≤at_)=True:=by simp;omega
      have u4:decide (d.end_≤at_)=true:=by simp;omega
      obtain⟨p3,p4⟩:=p2 h3 hmb htk hea
      cases hp:pickD l at_ but tk m with
      |none=>
       have HP:=zH (p3 hp);rw[hp] at hpk;replace hpk:pk=-1:=hpk;subst hpk;clear h3 hmb htk hea p3 p4 hp p1 p2 hbm hd;go_upto_region 7 with fail
       refine wp_region_held_drew (S:=fun w'=>w'.cell? ⟨g,off+m*6+2,none⟩=some (zi (d.state:Int))∧w'.cell? ⟨w.heap.size,m,none⟩=some (.bool false)∧w'.cell? ⟨g,off+m*6+4,none⟩=some (zu (d.end_:Int))) (by kernel_rfl) ?_ (fun hHeld=>?_)
       · (try dsimp only);exact HC.out _ (HW.out.drew)
       refine zqt (i:=0) rfl hHeld ?_
       (try simp only[zqa,zqb,zqc,Act.put,zqd,zqe,zqf])
       refine zqt (i:=1) rfl hHeld ?_
       (try simp only[zqa,zqb,zqc,Act.put,zqd,zqe,zqf])
       refine zqt (i:=2) rfl hHeld ?_
       (try simp only[zqa,zqb,zqc,Act.put,zqd,zqe,zqf])
       refine zqt (i:=3) rfl hHeld ?_
       (try simp only[zqa,zqb,zqc,Act.put,zqd,zqe,zqf])
       refine zqt (i:=4) rfl hHeld ?_
       (try simp only[zqa,zqb,zqc,Act.put,zqd,zqe,zqf])
       refine zqt (i:=5) rfl hHeld ?_
       (try simp only[zqa,zqb,zqc,Act.put,zqd,zqe,zqf])
       refine zqt (i:=6) rfl hHeld ?_
       (try simp only[zqa,zqb,zqc,Act.put,zqd,zqe,zqf])
       refine zqt (i:=7) rfl hHeld ?_
       (try simp only[zqa,zqb,zqc,Act.put,zqd,zqe,zqf])
       refine zqt (i:=8) rfl hHeld ?_
       (try simp only[zqa,zqb,zqc,Act.put,zqd,zqe,zqf])
       refine zqt (i:=9) rfl hHeld ?_
       (try simp only[zqa,zqb,zqc,Act.put,zqd,zqe,zqf])
       refine zqt (i:=10) rfl hHeld ?_
       (try simp only[zqa,zqb,zqc,Act.put,zqd,zqe,zqf])
       refine zqt (i:=11) rfl hHeld ?_
       (try simp only[zqa,zqb,zqc,Act.put,zqd,zqe,zqf])
       refine zqt (i:=12) rfl hHeld ?_
       (try simp only[zqa,zqb,zqc,Act.put,zqd,zqe,zqf])
       refine zqt (i:=13) rfl hHeld ?_
       (try simp only[zqa,zqb,zqc,Act.put,zqd,zqe,zqf])
       refine zqt (i:=14) rfl hHeld ?_
       (try simp only[zqa,zqb,zqc,Act.put,zqd,zqe,zqf])
       refine zqt (i:=15) rfl hHeld ?_
       (try simp only[zqa,zqb,zqc,Act.put,zqd,zqe,zqf])
       refine zqt (i:=16) rfl hHeld ?_
       (try simp only[zqa,zqb,zqc,Act.put,zqd,zqe,zqf])
       refine zqt (i:=17) rfl hHeld ?_
       (try simp only[zqa,zqb,zqc,Act.put,zqd,zqe,zqf])
       refine zqt (i:=18) rfl hHeld ?_
       (try simp only[zqa,zqb,zqc,Act.put,zqd,zqe,zqf])
       refine zqt (i:=19) rfl hHeld ?_
       (try simp only[zqa,zqb,zqc,Act.put,zqd,zqe,zqf])
       refine zqt (i:=20) rfl hHeld ?_
       (try simp only[zqa,zqb,zqc,Act.put,zqd,zqe,zqf])
       refine zqt (i:=21) rfl hHeld ?_
       (try simp only[zqa,zqb,zqc,Act.put,zqd,zqe,zqf])
       refine zqt (i:=22) rfl hHeld ?_
       (try simp only[zqa,zqb,zqc,Act.put,zqd,zqe,zqf])
       refine zqt (i:=23) rfl hHeld ?_
       (try simp only[zqa,zqb,zqc,Act.put,zqd,zqe,zqf])
       refine zqt (i:=24) rfl hHeld ?_
       (try simp only[zqa,zqb,zqc,Act.put,zqd,zqe,zqf])
       refine zqt (i:=25) rfl hHeld ?_
       (try simp only[zqa,zqb,zqc,Act.put,zqd,zqe,zqf])
       refine zqt (i:=26) rfl hHeld ?_
       (try simp only[zqa,zqb,zqc,Act.put,zqd,zqe,zqf])
       refine zqt (i:=27) rfl hHeld ?_
       (try simp only[zqa,zqb,zqc,Act.put,zqd,zqe,zqf])
       refine zqt (i:=28) rfl hHeld ?_
       (try simp only[zqa,zqb,zqc,Act.put,zqd,zqe,zqf])
       refine zqt (i:=29) rfl hHeld ?_
       (try simp only[zqa,zqb,zqc,Act.put,zqd,zqe,zqf])
       refine zqt (i:=30) rfl hHeld ?_
       (try simp only[zqa,zqb,zqc,Act.put,zqd,zqe,zqf])
       refine wpAnyH_take (i:=31) (v:=undef) rfl (by kernel_rfl) (by kernel_rfl) (by kernel_rfl) (fun _ _ _ h=>h) (Or.inr ⟨by rfl,rfl⟩) hHeld ?_
       (try simp only[zqa,zqb,zqc,Act.put,zqd,zqe,zqf])
       refine wpAnyH_take (i:=32) (v:=undef) rfl (by kernel_rfl) (by kernel_rfl) (by kernel_rfl) (fun _ _ _ h=>h) (Or.inr ⟨by rfl,rfl⟩) hHeld ?_
       (try simp only[zqa,zqb,zqc,Act.put,zqd,zqe,zqf])
       refine wpAnyH_take (i:=33) (v:=undef) rfl (by kernel_rfl) (by kernel_rfl) (by kernel_rfl) (fun _ _ _ h=>h) (Or.inr ⟨by rfl,rfl⟩) hHeld ?_
       (try simp only[zqa,zqb,zqc,Act.put,zqd,zqe,zqf])
       refine wpAnyH_take (i:=34) (v:=undef) rfl (by kernel_rfl) (by kernel_rfl) (by kernel_rfl) (fun _ _ _ h=>h) (Or.inr ⟨by rfl,rfl⟩) hHeld ?_
       (try simp only[zqa,zqb,zqc,Act.put,zqd,zqe,zqf])
       refine wpAnyH_take (i:=35) (v:=undef) rfl (by kernel_rfl) (by kernel_rfl) (by kernel_rfl) (fun _ _ _ h=>h) (Or.inr ⟨by rfl,rfl⟩) hHeld ?_
       (try simp only[zqa,zqb,zqc,Act.put,zqd,zqe,zqf])
       refine wpAnyH_take (i:=36) (v:=undef) rfl (by kernel_rfl) (by kernel_rfl) (by kernel_rfl) (fun _ _ _ h=>h) (Or.inr ⟨by rfl,rfl⟩) hHeld ?_
       (try simp only[zqa,zqb,zqc,Act.put,zqd,zqe,zqf])
       refine wpAnyH_take (i:=37) (v:=undef) rfl (by kernel_rfl) (by kernel_rfl) (by kernel_rfl) (fun _ _ _ h=>h) (Or.inr ⟨by rfl,rfl⟩) hHeld ?_
       (try simp only[zqa,zqb,zqc,Act.put,zqd,zqe,zqf])
       refine wpAnyH_take (i:=38) (v:=undef) rfl (by kernel_rfl) (by kernel_rfl) (by kernel_rfl) (fun _ _ _ h=>h) (Or.inr ⟨by rfl,rfl⟩) hHeld ?_
       (try simp only[zqa,zqb,zqc,Act.put,zqd,zqe,zqf])
       refine wpAnyH_take (i:=39) (v:=undef) rfl (by kernel_rfl) (by kernel_rfl) (by kernel_rfl) (fun _ _ _ h=>h) (Or.inr ⟨by rfl,rfl⟩) hHeld ?_
       (try simp only[zqa,zqb,zqc,Act.put,zqd,zqe,zqf])
       refine wpAnyH_take (i:=40) (v:=undef) rfl (by kernel_rfl) (by kernel_rfl) (by kernel_rfl) (fun _ _ _ h=>h) (Or.inr ⟨by rfl,rfl⟩) hHeld ?_
       (try simp only[zqa,zqb,zqc,Act.put,zqd,zqe,zqf])
       refine wpAnyH_take (i:=41) (v:=undef) rfl (by kernel_rfl) (by kernel_rfl) (by kernel_rfl) (fun _ _ _ h=>h) (Or.inr ⟨by rfl,rfl⟩) hHeld ?_
       (try simp only[zqa,zqb,zqc,Act.put,zqd,zqe,zqf])
       refine zqt (i:=42) rfl hHeld ?_
       (try simp only[zqa,zqb,zqc,Act.put,zqd,zqe,zqf])
       refine zqt (i:=43) rfl hHeld ?_
       (try simp only[zqa,zqb,zqc,Act.put,zqd,zqe,zqf])
       refine wpAnyH_done (by kernel_rfl) ?_ _;go_wp2
       go_roundw
       case rel=>exact HEND.out _ HP.out
       case measure=>have:=HB2.out;simp[intOf];omega
      |some q=>
       obtain⟨p5,p6⟩:=p4 q hp;rw[hp] at hpk;replace hpk:pk=(q:Int):=hpk;subst hpk;have hql:=(pickD_lt hp).2.1;obtain⟨dq,hdq⟩:∃ dq,l[q]? =some dq:=⟨_,List.getElem?_eq_getElem hql⟩
       have hgq:l.getD q default=dq:=by rw[List.getD_eq_getElem?_getD,hdq];rfl
       rw[hgq] at p5 p6;have HC2:Hid (∀ w',Below wr2.heap.size wr2 w'→w'.cell? ⟨g,off+m*6+2,none⟩=some (zi (d.state:Int))∧w'.cell? ⟨w.heap.size,m,none⟩=some (.bool false)∧w'.cell? ⟨g,off+m*6+4,none⟩=some (zu (d.end_:Int))∧w'.cell? ⟨g,off+q*6+4,none⟩=some (zu (dq.end_:Int))):=zH fun w' hb=>⟨(HC.out w' hb).1,(HC.out w' hb).2.1,(HC.out w' hb).2.2,HQ.out q dq hdq w' hb⟩
       have v0:((q:Int)<0)=False:=by simp<;>omega
       have v1:decide ((q:Int)<0)=false:=by simp<;>omega
       have v2:(0:Int)≤(q:Int):=by omega
       have v3:(q:Int)<(n:Int):=by have:=H0.out.1;omega
       by_cases hlq:d.end_<dq.end_
       · have HP:=zH (p5 hlq)
         have x1:((d.end_:Int)<(dq.end_:Int))=True:=by simp;omega
         have x2:decide ((d.end_:Int)<(dq.end_:Int))=true:=by simp;omega
         have x3:(d.end_<dq.end_)=True:=by simp;omega
         have x4:decide (d.end_<dq.end_)=true:=by simp;omega
         clear h3 hmb htk hea p3 p4 p5 p6 hp hql hdq hgq hlq HC p1 p2 hbm hd;go_upto_region 7 with fail
         refine wp_region_held_drew (S:=fun w'=>w'.cell? ⟨g,off+m*6+2,none⟩=some (zi (d.state:Int))∧w'.cell? ⟨w.heap.size,m,none⟩=some (.bool false)∧w'.cell? ⟨g,off+m*6+4,none⟩=some (zu (d.end_:Int))∧w'.cell? ⟨g,off+q*6+4,none⟩=some (zu (dq.end_:Int))) (by kernel_rfl) ?_ (fun hHeld=>?_)
         · (try dsimp only);exact HC2.out _ (HW.out.drew)
         refine zqt (i:=0) rfl hHeld ?_
         (try simp only[zqa,zqb,zqc,Act.put,zqd,zqe,zqf])
         refine zqt (i:=1) rfl hHeld ?_
         (try simp only[zqa,zqb,zqc,Act.put,zqd,zqe,zqf])
         refine zqt (i:=2) rfl hHeld ?_
         (try simp only[zqa,zqb,zqc,Act.put,zqd,zqe,zqf])
         refine zqt (i:=3) rfl hHeld ?_
         (try simp only[zqa,zqb,zqc,Act.put,zqd,zqe,zqf])
         refine zqt (i:=4) rfl hHeld ?_
         (try simp only[zqa,zqb,zqc,Act.put,zqd,zqe,zqf])
         refine zqt (i:=5) rfl hHeld ?_
         (try simp only[zqa,zqb,zqc,Act.put,zqd,zqe,zqf])
         refine zqt (i:=6) rfl hHeld ?_
         (try simp only[zqa,zqb,zqc,Act.put,zqd,zqe,zqf])
         refine zqt (i:=7) rfl hHeld ?_
         (try simp only[zqa,zqb,zqc,Act.put,zqd,zqe,zqf])
         refine zqt (i:=8) rfl hHeld ?_
         (try simp only[zqa,zqb,zqc,Act.put,zqd,zqe,zqf])
         refine zqt (i:=9) rfl hHeld ?_
         (try simp only[zqa,zqb,zqc,Act.put,zqd,zqe,zqf])
         refine zqt (i:=10) rfl hHeld ?_
         (try simp only[zqa,zqb,zqc,Act.put,zqd,zqe,zqf])
         refine zqt (i:=11) rfl hHeld ?_
         (try simp only[zqa,zqb,zqc,Act.put,zqd,zqe,zqf])
         refine zqt (i:=12) rfl hHeld ?_
         (try simp only[zqa,zqb,zqc,Act.put,zqd,zqe,zqf])
         refine zqt (i:=13) rfl hHeld ?_
         (try simp only[zqa,zqb,zqc,Act.put,zqd,zqe,zqf])
         refine zqt (i:=14) rfl hHeld ?_
         (try simp only[zqa,zqb,zqc,Act.put,zqd,zqe,zqf])
         refine zqt (i:=15) rfl hHeld ?_
         (try simp only[zqa,zqb,zqc,Act.put,zqd,zqe,zqf])
         refine zqt (i:=16) rfl hHeld ?_
         (try simp only[zqa,zqb,zqc,Act.put,zqd,zqe,zqf])
         refine zqt (i:=17) rfl hHeld ?_
         (try simp only[zqa,zqb,zqc,Act.put,zqd,zqe,zqf])
         refine zqt (i:=18) rfl hHeld ?_
         (try simp only[zqa,zqb,zqc,Act.put,zqd,zqe,zqf])
         refine zqt (i:=19) rfl hHeld ?_
         (try simp only[zqa,zqb,zqc,Act.put,zqd,zqe,zqf])
         refine zqt (i:=20) rfl hHeld ?_
         (try simp only[zqa,zqb,zqc,Act.put,zqd,zqe,zqf])
         refine zqt (i:=21) rfl hHeld ?_
         (try simp only[zqa,zqb,zqc,Act.put,zqd,zqe,zqf])
         refine zqt (i:=22) rfl hHeld ?_
         (try simp only[zqa,zqb,zqc,Act.put,zqd,zqe,zqf])
         refine zqt (i:=23) rfl hHeld ?_
         (try simp only[zqa,zqb,zqc,Act.put,zqd,zqe,zqf])
         refine zqt (i:=24) rfl hHeld ?_
         (try simp only[zqa,zqb,zqc,Act.put,zqd,zqe,zqf])
         refine zqt (i:=25) rfl hHeld ?_
         (try simp only[zqa,zqb,zqc,Act.put,zqd,zqe,zqf])
         refine zqt (i:=26) rfl hHeld ?_
         (try simp only[zqa,zqb,zqc,Act.put,zqd,zqe,zqf])
         refine zqt (i:=27) rfl hHeld ?_
         (try simp only[zqa,zqb,zqc,Act.put,zqd,zqe,zqf])
         refine zqt (i:=28) rfl hHeld ?_
         (try simp only[zqa,zqb,zqc,Act.put,zqd,zqe,zqf])
         refine zqt (i:=29) rfl hHeld ?_
         (try simp only[zqa,zqb,zqc,Act.put,zqd,zqe,zqf])
         refine zqt (i:=30) rfl hHeld ?_
         (try simp only[zqa,zqb,zqc,Act.put,zqd,zqe,zqf])
         refine zqt (i:=31) rfl hHeld ?_
         (try simp only[zqa,zqb,zqc,Act.put,zqd,zqe,zqf])
         refine zqt (i:=32) rfl hHeld ?_
         (try simp only[zqa,zqb,zqc,Act.put,zqd,zqe,zqf])
         refine zqt (i:=33) rfl hHeld ?_
         (try simp only[zqa,zqb,zqc,Act.put,zqd,zqe,zqf])
         refine zqt (i:=34) rfl hHeld ?_
         (try simp only[zqa,zqb,zqc,Act.put,zqd,zqe,zqf])
         refine zqt (i:=35) rfl hHeld ?_
         (try simp only[zqa,zqb,zqc,Act.put,zqd,zqe,zqf])
         refine zqt (i:=36) rfl hHeld ?_
         (try simp only[zqa,zqb,zqc,Act.put,zqd,zqe,zqf])
         refine zqt (i:=37) rfl hHeld ?_
         (try simp only[zqa,zqb,zqc,Act.put,zqd,zqe,zqf])
         refine zqt (i:=38) rfl hHeld ?_
         (try simp only[zqa,zqb,zqc,Act.put,zqd,zqe,zqf])
         refine zqt (i:=39) rfl hHeld ?_
         (try simp only[zqa,zqb,zqc,Act.put,zqd,zqe,zqf])
         refine zqt (i:=40) rfl hHeld ?_
         (try simp only[zqa,zqb,zqc,Act.put,zqd,zqe,zqf])
         refine zqt (i:=41) rfl hHeld ?_
         (try simp only[zqa,zqb,zqc,Act.put,zqd,zqe,zqf])
         refine zqt (i:=42) rfl hHeld ?_
         (try simp only[zqa,zqb,zqc,Act.put,zqd,zqe,zqf])
         refine zqt (i:=43) rfl hHeld ?_
         (try simp only[zqa,zqb,zqc,Act.put,zqd,zqe,zqf])
         refine wpAnyH_done (by kernel_rfl) ?_ _;go_wp2
         go_roundw
         case rel=>exact HEND.out _ HP.out
         case measure=>have:=HB2.out;simp[intOf];omega
       · have HP:=zH (p6 hlq)
         have x1:((d.end_:Int)<(dq.end_:Int))=False:=by simp;omega
         have x2:decide ((d.end_:Int)<(dq.end_:Int))=false:=by simp;omega
         have x3:(d.end_<dq.end_)=False:=by simp;omega
         have x4:decide (d.end_<dq.end_)=false:=by simp;omega
         clear h3 hmb htk hea p3 p4 p5 p6 hp hql hdq hgq hlq HC p1 p2 hbm hd;go_upto_region 7 with fail
         refine wp_region_held_drew (S:=fun w'=>w'.cell? ⟨g,off+m*6+2,none⟩=some (zi (d.state:Int))∧w'.cell? ⟨w.heap.size,m,none⟩=some (.bool false)∧w'.cell? ⟨g,off+m*6+4,none⟩=some (zu (d.end_:Int))∧w'.cell? ⟨g,off+q*6+4,none⟩=some (zu (dq.end_:Int))) (by kernel_rfl) ?_ (fun hHeld=>?_)
         · (try dsimp only);exact HC2.out _ (HW.out.drew)
         refine zqt (i:=0) rfl hHeld ?_
         (try simp only[zqa,zqb,zqc,Act.put,zqd,zqe,zqf])
         refine zqt (i:=1) rfl hHeld ?_
         (try simp only[zqa,zqb,zqc,Act.put,zqd,zqe,zqf])
         refine zqt (i:=2) rfl hHeld ?_
         (try simp only[zqa,zqb,zqc,Act.put,zqd,zqe,zqf])
         refine zqt (i:=3) rfl hHeld ?_
         (try simp only[zqa,zqb,zqc,Act.put,zqd,zqe,zqf])
         refine zqt (i:=4) rfl hHeld ?_
         (try simp only[zqa,zqb,zqc,Act.put,zqd,zqe,zqf])
         refine zqt (i:=5) rfl hHeld ?_
         (try simp only[zqa,zqb,zqc,Act.put,zqd,zqe,zqf])
         refine zqt (i:=6) rfl hHeld ?_
         (try simp only[zqa,zqb,zqc,Act.put,zqd,zqe,zqf])
         refine zqt (i:=7) rfl hHeld ?_
         (try simp only[zqa,zqb,zqc,Act.put,zqd,zqe,zqf])
         refine zqt (i:=8) rfl hHeld ?_
         (try simp only[zqa,zqb,zqc,Act.put,zqd,zqe,zqf])
         refine zqt (i:=9) rfl hHeld ?_
         (try simp only[zqa,zqb,zqc,Act.put,zqd,zqe,zqf])
         refine zqt (i:=10) rfl hHeld ?_
         (try simp only[zqa,zqb,zqc,Act.put,zqd,zqe,zqf])
         refine zqt (i:=11) rfl hHeld ?_
         (try simp only[zqa,zqb,zqc,Act.put,zqd,zqe,zqf])
         refine zqt (i:=12) rfl hHeld ?_
         (try simp only[zqa,zqb,zqc,Act.put,zqd,zqe,zqf])
         refine zqt (i:=13) rfl hHeld ?_
         (try simp only[zqa,zqb,zqc,Act.put,zqd,zqe,zqf])
         refine zqt (i:=14) rfl hHeld ?_
         (try simp only[zqa,zqb,zqc,Act.put,zqd,zqe,zqf])
         refine zqt (i:=15) rfl hHeld ?_
         (try simp only[zqa,zqb,zqc,Act.put,zqd,zqe,zqf])
         refine zqt (i:=16) rfl hHeld ?_
         (try simp only[zqa,zqb,zqc,Act.put,zqd,zqe,zqf])
         refine zqt (i:=17) rfl hHeld ?_
         (try simp only[zqa,zqb,zqc,Act.put,zqd,zqe,zqf])
         refine zqt (i:=18) rfl hHeld ?_
         (try simp only[zqa,zqb,zqc,Act.put,zqd,zqe,zqf])
         refine zqt (i:=19) rfl hHeld ?_
         (try simp only[zqa,zqb,zqc,Act.put,zqd,zqe,zqf])
         refine zqt (i:=20) rfl hHeld ?_
         (try simp only[zqa,zqb,zqc,Act.put,zqd,zqe,zqf])
         refine zqt (i:=21) rfl hHeld ?_
         (try simp only[zqa,zqb,zqc,Act.put,zqd,zqe,zqf])
         refine zqt (i:=22) rfl hHeld ?_
         (try simp only[zqa,zqb,zqc,Act.put,zqd,zqe,zqf])
         refine zqt (i:=23) rfl hHeld ?_
         (try simp only[zqa,zqb,zqc,Act.put,zqd,zqe,zqf])
         refine zqt (i:=24) rfl hHeld ?_
         (try simp only[zqa,zqb,zqc,Act.put,zqd,zqe,zqf])
         refine zqt (i:=25) rfl hHeld ?_
         (try simp only[zqa,zqb,zqc,Act.put,zqd,zqe,zqf])
         refine zqt (i:=26) rfl hHeld ?_
         (try simp only[zqa,zqb,zqc,Act.put,zqd,zqe,zqf])
         refine zqt (i:=27) rfl hHeld ?_
         (try simp only[zqa,zqb,zqc,Act.put,zqd,zqe,zqf])
         refine zqt (i:=28) rfl hHeld ?_
         (try simp only[zqa,zqb,zqc,Act.put,zqd,zqe,zqf])
         refine zqt (i:=29) rfl hHeld ?_
         (try simp only[zqa,zqb,zqc,Act.put,zqd,zqe,zqf])
         refine zqt (i:=30) rfl hHeld ?_
         (try simp only[zqa,zqb,zqc,Act.put,zqd,zqe,zqf])
         refine zqt (i:=31) rfl hHeld ?_
         (try simp only[zqa,zqb,zqc,Act.put,zqd,zqe,zqf])
         refine zqt (i:=32) rfl hHeld ?_
         (try simp only[zqa,zqb,zqc,Act.put,zqd,zqe,zqf])
         refine zqt (i:=33) rfl hHeld ?_
         (try simp only[zqa,zqb,zqc,Act.put,zqd,zqe,zqf])
         refine zqt (i:=34) rfl hHeld ?_
         (try simp only[zqa,zqb,zqc,Act.put,zqd,zqe,zqf])
         refine zqt (i:=35) rfl hHeld ?_
         (try simp only[zqa,zqb,zqc,Act.put,zqd,zqe,zqf])
         refine zqt (i:=36) rfl hHeld ?_
         (try simp only[zqa,zqb,zqc,Act.put,zqd,zqe,zqf])
         refine zqt (i:=37) rfl hHeld ?_
         (try simp only[zqa,zqb,zqc,Act.put,zqd,zqe,zqf])
         refine zqt (i:=38) rfl hHeld ?_
         (try simp only[zqa,zqb,zqc,Act.put,zqd,zqe,zqf])
         refine zqt (i:=39) rfl hHeld ?_
         (try simp only[zqa,zqb,zqc,Act.put,zqd,zqe,zqf])
         refine zqt (i:=40) rfl hHeld ?_
         (try simp only[zqa,zqb,zqc,Act.put,zqd,zqe,zqf])
         refine zqt (i:=41) rfl hHeld ?_
         (try simp only[zqa,zqb,zqc,Act.put,zqd,zqe,zqf])
         refine zqt (i:=42) rfl hHeld ?_
         (try simp only[zqa,zqb,zqc,Act.put,zqd,zqe,zqf])
         refine zqt (i:=43) rfl hHeld ?_
         (try simp only[zqa,zqb,zqc,Act.put,zqd,zqe,zqf])
         refine wpAnyH_done (by kernel_rfl) ?_ _;go_wp2
         go_roundw
         case rel=>exact HEND.out _ HP.out
         case measure=>have:=HB2.out;simp[intOf];omega
   · obtain rfl:m=n:=by omega
     have c0:((m:Int)<(m:Int))=False:=by simp
     have hmn:m=l.length:=hnn;have HB2:=zH (zA hb2 (zA hn hS))
     cases hp:pickD l at_ but tk m with
     |none=>
      rw[show pickI none=-1 from rfl]
      have HFN : Hid (ps = fin) := zH (by
        obtain⟨-,-,h1,h2,-⟩:=HL.out
        cases f with
        |zero=>omega
        |succ f=>
          unfold stateF at h2
          rw[←hmn,hp] at h2
          exact h2)
      clear hp hmn hb2 hn hS hat hbut hm hlt hnn;go_wp2;go_ret;have hs:=HL.out.1.below HB2.out.1;refine⟨av,pn,cv,rfl,?_,?_,?_,hs.bel⟩
      · rw[←HFN.out];exact Row.low hs.row
      · rw[←HFN.out];exact HL.out.2.2.2.2
      · have:=HL.out.2.1;have:=HL.out.2.2.2.2;omega
     |some k=>
      rw[show pickI (some k)=(k:Int) from rfl];obtain⟨hkm,hkl,hkt⟩:=pickD_lt hp;obtain⟨d,hd⟩:∃ d,l[k]? =some d:=⟨_,List.getElem?_eq_getElem hkl⟩
      have hs2:=HL.out.1.below hb2;have hktl:k<tk.length:=by rw[HT.out];exact hkm
      have T0:wr2.cell? ⟨w.heap.size,k,none⟩=some (.bool false):=by have:=hs2.tkc hktl;rw[hkt] at this;exact this
      have F0:wr2.frozen? ⟨w.heap.size,k,none⟩=false:=frz hs2.blk k;have HS2:=zH (hs2.take k);have v0:((k:Int)<0)=False:=by simp<;>omega
      have v1:decide ((k:Int)<0)=false:=by simp<;>omega
      have v2:(0:Int)≤(k:Int):=by omega
      have v3:(k:Int)<(m:Int):=by omega
      have hk2:tk[k]? =some false:=by
       rw[List.getElem?_eq_getElem hktl];simp[List.getD_eq_getElem?_getD,hktl] at hkt;rw[hkt]
      have hun:=untS_set l tk k d hd hk2;have hcn:=count_set' tk k hk2
      have HFN : Hid (∃ f', (tk.set k true).count false < f' ∧ stateF l at_ but f' (tk.set k true) (laidL ps d.ops) = fin) := zH (by
        obtain⟨-,-,h1,h2,-⟩:=HL.out
        cases f with
        |zero=>omega
        |succ f=>
          unfold stateF at h2
          rw[←hmn,hp] at h2
          have hg:l.getD k default=d:=by rw[List.getD_eq_getElem?_getD,hd];rfl
          simp only[hg] at h2
          exact⟨f,by omega,h2⟩)
      have HKD:=zH (zA hkm (zA hkl (zA hd (zA hun hcn))));clear hp hmn hb2 hn hS hat hbut hm hlt hnn hkm hkl hkt hd hs2 hktl hk2 hun hcn;go_wp2
      go_loopw [7,11] (fun out i wr3=>∃ mm:Nat,i=zi (mm:Int)∧mm≤d.ops.length∧SL w l (tk.set k true) (laidL ps (d.ops.take mm)) out wr3) (fun _ i _=>d.ops.length - (intOf i).toNat)
      case atStart=>exact⟨0,rfl,Nat.zero_le _,by rw[List.take_zero];exact HS2.out⟩
      case round=>
       rename World=>wr3
       obtain⟨mm,rfl,hmm,hL3⟩:=hrel;obtain⟨av3,cv3,rfl⟩:=hL3.form;obtain⟨hkm,hkl,hd,hun,hcn⟩:=HKD.out;obtain⟨g,off,rfl,hcc⟩:=HCC.out w (Below.refl _ _) (by omega);obtain⟨vo,hcm,hj⟩:=hcc wr3 hL3.bel k d hd;obtain⟨ao,oc,rfl,h9⟩:=hcm;have D5:wr3.cell? ⟨g,off+k*6+5,none⟩=some (.slice ao d.ops.length oc):=by have:=hj 5 (by omega);rw[Nat.add_assoc];exact this
       obtain⟨on,hon⟩:∃ on,on=d.ops.length:=⟨_,rfl⟩
       rw[←hon] at D5 hmm h9;obtain⟨pm,hpm⟩:∃ pm,pm=(laidL ps (d.ops.take mm)).length:=⟨_,rfl⟩
       rw[←hpm];have n3:IntKind.i64.wrap ((mm:Int)+1)=(mm:Int)+1:=by
        have:=HL.out.2.1;rw[IntKind.wrap_i64];omega
       by_cases hlt:mm<on
       · obtain⟨g2,off2,rfl,hg2,hx⟩:=h9.resolve_left (by omega)
         obtain⟨x,hxm⟩:∃ x,d.ops[mm]? =some x:=⟨_,List.getElem?_eq_getElem (by omega)⟩
         obtain⟨va,vn,vc,-,hxj⟩:=hx mm x hxm;have Y0:wr3.cell? ⟨g2,off2+mm*9,none⟩=some (zi (x.1.kind:Int)):=by have:=hxj 0 (by omega);rw[Nat.add_zero] at this;exact this
         have Y1:wr3.cell? ⟨g2,off2+mm*9+1,none⟩=some (zi (x.1.key:Int)):=by have:=hxj 1 (by omega);rw[Nat.add_assoc];exact this
         have Y2:wr3.cell? ⟨g2,off2+mm*9+2,none⟩=some (zi (x.1.hi:Int)):=by have:=hxj 2 (by omega);rw[Nat.add_assoc];exact this
         have Y3:wr3.cell? ⟨g2,off2+mm*9+3,none⟩=some (zi (x.1.value:Int)):=by have:=hxj 3 (by omega);rw[Nat.add_assoc];exact this
         have Y4:wr3.cell? ⟨g2,off2+mm*9+4,none⟩=some (zi (x.2.e:Int)):=by have:=hxj 4 (by omega);rw[Nat.add_assoc];exact this
         have Y5:wr3.cell? ⟨g2,off2+mm*9+5,none⟩=some (zi (x.2.value:Int)):=by have:=hxj 5 (by omega);rw[Nat.add_assoc];exact this
         have Y6:wr3.cell? ⟨g2,off2+mm*9+6,none⟩=some (.slice va vn vc):=by have:=hxj 6 (by omega);rw[Nat.add_assoc];exact this
         have Y7:wr3.cell? ⟨g2,off2+mm*9+7,none⟩=some (zi (x.2.over:Int)):=by have:=hxj 7 (by omega);rw[Nat.add_assoc];exact this
         have Y8:wr3.cell? ⟨g2,off2+mm*9+8,none⟩=some (zi (x.2.reason:Int)):=by have:=hxj 8 (by omega);rw[Nat.add_assoc];exact this
         have c0:((mm:Int)<(on:Int))=True:=by simp;omega
         have c1:(mm:Int)<(on:Int):=by omega
         have c2:(0:Int)≤(mm:Int):=by omega
         have hlen:∀ (ops:List (En.Op×Res)) (ps:List (Nat×Nat)),(laidL ps ops).length≤ps.length+ops.length:=fun ops=>by
          induction ops with
          |nil=>intro ps;exact Nat.le_refl _
          |cons c ops ih=>intro ps;have:=ih (laidP ps c);have:=laidP_len ps c;show (laidL (laidP ps c) ops).length≤_;rw[List.length_cons];omega
         have HLD:=zH (laidD_any wr3 (w.heap.size+1) av3 pm cv3 va vn vc (laidL ps (d.ops.take mm)) x (by rw[hpm];exact hL3.row) (by have:=hL3.sz;omega) (by have:=hlen (d.ops.take mm) ps;rw[List.length_take] at this;have:=HL.out.2.1;omega));have hnx:laidL ps (d.ops.take (mm+1))=laidP (laidL ps (d.ops.take mm)) x:=by
          rw[List.take_add_one,hxm];unfold laidL;rw[List.foldl_append];rfl
         have HX:=zH (zA hL3 (zA hnx (zA hlt hon)));clear hmm hL3 hkm hkl hd hun hcn hcc hj h9 hpm hx hxm hxj hlt hlen hnx hg2 hon;go_wp2_with (go_at_call 97;refine (HLD.out).mono ?_;rintro e w4 ⟨av4,n4,cv4,rfl,q1,q2,q3⟩;have HY:=zH (zA q1 (zA q2 q3));clear q1 q2 q3)
         go_roundw
         case rel=>
          obtain⟨hL3,hnx,hlt,hon⟩:=HX.out;obtain⟨q1,q2,q3⟩:=HY.out;have h5:=hL3.below q3;exact⟨mm+1,rfl,by omega,h5.bel,h5.sz,h5.blk,h5.tl,by rw[hnx];exact q2⟩
         case measure=>have:=HX.out.2.2;simp[intOf];omega
       · obtain rfl:mm=on:=by omega
         have c0:((mm:Int)<(mm:Int))=False:=by simp
         have HX:=zH (zA hL3 (zA hon hpm));clear hmm hL3 hkm hkl hd hun hcn hcc hj h9 hpm hlt hon;go_wp2
         go_roundw
         case rel=>
          obtain⟨hL3,hon,hpm⟩:=HX.out;obtain⟨hkm,hkl,hd,hun,hcn⟩:=HKD.out;rw[hon,List.take_length] at hL3 hpm;have hlen:∀ (ops:List (En.Op×Res)) (ps:List (Nat×Nat)),(laidL ps ops).length≤ps.length+ops.length:=fun ops=>by
           induction ops with
           |nil=>intro ps;exact Nat.le_refl _
           |cons c ops ih=>intro ps;have:=ih (laidP ps c);have:=laidP_len ps c;show (laidL (laidP ps c) ops).length≤_;rw[List.length_cons];omega
          refine⟨tk.set k true,laidL ps d.ops,?_,by have:=hlen d.ops ps;have:=HL.out.2.1;omega,HFN.out⟩;rw[hpm];exact hL3
         case measure=>
          obtain⟨hL3,hon,hpm⟩:=HX.out;obtain⟨hkm,hkl,hd,hun,hcn⟩:=HKD.out;rw[mzB_is hL3.blk,mzB_is HL.out.1.blk];omega
theorem rightD_any (w:World) (va:Option Addr) (vn vc:Nat) (av:Option Addr) (pn pc:Nat) (ps:List (Nat×Nat)) (x:En.Op×Res) (hR:PR w (.slice av pn pc) ps) (hl:ps.length≤1000000) (h5:x.1.kind≠5) (hk:rightP x ps=true):Calls Tryz.prog 98 #[.agg (cqCs x.1 x.2 (.slice va vn vc)).toArray,.slice av pn pc] w fun e w'=>e=.returned (.bool true)∧Below w.heap.size w w':=by
 obtain⟨o,r⟩:=x;show Calls Tryz.prog 98 #[.agg #[zi (o.kind:Int),zi (o.key:Int),zi (o.hi:Int),zi (o.value:Int),zi (r.e:Int),zi (r.value:Int),.slice va vn vc,zi (r.over:Int),zi (r.reason:Int)],.slice av pn pc] w _;replace h5:o.kind≠5:=h5;unfold rightP at hk;simp only at hk;obtain⟨f,hf⟩:∃ f,f=findP ps o.key:=⟨_,rfl⟩
 rw[←hf] at hk;obtain⟨f1,f2⟩:=f;have HFI:Hid (∀ w',Below w.heap.size w w'→Calls Tryz.prog 80 #[.slice av pn pc,zi (o.key:Int)] w' fun e w9=>e=.returned (.tuple #[zi (f1:Int),.bool f2])∧w'=w9):=zH fun w' hb=>by
  have h:=findD_any w' _ ps o.key (hR.below hb) hl;rw[←hf] at h;exact h
 clear hf hR hl;simp only at hk
 by_cases k1:o.kind=1
 · have a1:((o.kind:Int)=1)=True:=by first|(simp;done)|(simp;omega)|omega|(simp_all;done)
   have a2:((o.kind:Int)==1)=true:=by first|(simp;done)|(simp;omega)|omega|(simp_all;done)
   have a3:((o.kind:Int) !=1)=false:=by first|(simp;done)|(simp;omega)|omega|(simp_all;done)
   have a4:decide ((o.kind:Int)=1)=true:=by first|(simp;done)|(simp;omega)|omega|(simp_all;done)
   rw[if_pos k1] at hk
   by_cases e0:r.e=0
   · have b1:((r.e:Int)=0)=True:=by first|(simp;done)|(simp;omega)|omega|(simp_all;done)
     have b2:((r.e:Int)==0)=true:=by first|(simp;done)|(simp;omega)|omega|(simp_all;done)
     have b3:((r.e:Int) !=0)=false:=by first|(simp;done)|(simp;omega)|omega|(simp_all;done)
     have b4:decide ((r.e:Int)=0)=true:=by first|(simp;done)|(simp;omega)|omega|(simp_all;done)
     have c1:((r.e:Int)=11)=False:=by first|(simp;done)|(simp;omega)|omega|(simp_all;done)
     have c2:((r.e:Int)==11)=false:=by first|(simp;done)|(simp;omega)|omega|(simp_all;done)
     have c3:((r.e:Int) !=11)=true:=by first|(simp;done)|(simp;omega)|omega|(simp_all;done)
     have c4:decide ((r.e:Int)=11)=false:=by first|(simp;done)|(simp;omega)|omega|(simp_all;done)
     rw[e0] at hk;simp at hk;obtain⟨rfl,hv⟩:=hk;have d1:((r.value:Int)=(f1:Int))=True:=by first|(simp;done)|(simp;omega)|omega|(simp_all;done)
     have d2:((r.value:Int)==(f1:Int))=true:=by first|(simp;done)|(simp;omega)|omega|(simp_all;done)
     have d3:((r.value:Int) !=(f1:Int))=false:=by first|(simp;done)|(simp;omega)|omega|(simp_all;done)
     have d4:decide ((r.value:Int)=(f1:Int))=true:=by first|(simp;done)|(simp;omega)|omega|(simp_all;done)
     clear k1 h5 e0 hv;go_enter Tryz.func98,Tryz.ntmps98;go_wp2_with (go_at_call 80;refine (HFI.out _ ((Below.refl _ _).alloc (Nat.le_refl _) _)).mono ?_;rintro e w9 ⟨rfl,rfl⟩);go_ret;exact⟨rfl,(Below.refl _ _).alloc (Nat.le_refl _) _⟩
   · have b1:((r.e:Int)=0)=False:=by first|(simp;done)|(simp;omega)|omega|(simp_all;done)
     have b2:((r.e:Int)==0)=false:=by first|(simp;done)|(simp;omega)|omega|(simp_all;done)
     have b3:((r.e:Int) !=0)=true:=by first|(simp;done)|(simp;omega)|omega|(simp_all;done)
     have b4:decide ((r.e:Int)=0)=false:=by first|(simp;done)|(simp;omega)|omega|(simp_all;done)
     by_cases e1:r.e=11
     · have c1:((r.e:Int)=11)=True:=by first|(simp;done)|(simp;omega)|omega|(simp_all;done)
       have c2:((r.e:Int)==11)=true:=by first|(simp;done)|(simp;omega)|omega|(simp_all;done)
       have c3:((r.e:Int) !=11)=false:=by first|(simp;done)|(simp;omega)|omega|(simp_all;done)
       have c4:decide ((r.e:Int)=11)=true:=by first|(simp;done)|(simp;omega)|omega|(simp_all;done)
       rw[e1] at hk;simp at hk;subst hk;clear k1 h5 e0 e1;go_enter Tryz.func98,Tryz.ntmps98;go_wp2_with (go_at_call 80;refine (HFI.out _ ((Below.refl _ _).alloc (Nat.le_refl _) _)).mono ?_;rintro e w9 ⟨rfl,rfl⟩);go_ret;exact⟨rfl,(Below.refl _ _).alloc (Nat.le_refl _) _⟩
     · have c1:((r.e:Int)=11)=False:=by first|(simp;done)|(simp;omega)|omega|(simp_all;done)
       have c2:((r.e:Int)==11)=false:=by first|(simp;done)|(simp;omega)|omega|(simp_all;done)
       have c3:((r.e:Int) !=11)=true:=by first|(simp;done)|(simp;omega)|omega|(simp_all;done)
       have c4:decide ((r.e:Int)=11)=false:=by first|(simp;done)|(simp;omega)|omega|(simp_all;done)
       clear hk k1 h5 e0 e1;go_enter Tryz.func98,Tryz.ntmps98;go_wp2_with (go_at_call 80;refine (HFI.out _ ((Below.refl _ _).alloc (Nat.le_refl _) _)).mono ?_;rintro e w9 ⟨rfl,rfl⟩);go_ret;exact⟨rfl,(Below.refl _ _).alloc (Nat.le_refl _) _⟩
 have a1:((o.kind:Int)=1)=False:=by first|(simp;done)|(simp;omega)|omega|(simp_all;done)
 have a2:((o.kind:Int)==1)=false:=by first|(simp;done)|(simp;omega)|omega|(simp_all;done)
 have a3:((o.kind:Int) !=1)=true:=by first|(simp;done)|(simp;omega)|omega|(simp_all;done)
 have a4:decide ((o.kind:Int)=1)=false:=by first|(simp;done)|(simp;omega)|omega|(simp_all;done)
 rw[if_neg k1] at hk
 by_cases k2:o.kind=2
 · have f1:((o.kind:Int)=2)=True:=by first|(simp;done)|(simp;omega)|omega|(simp_all;done)
   have f2:((o.kind:Int)==2)=true:=by first|(simp;done)|(simp;omega)|omega|(simp_all;done)
   have f3:((o.kind:Int) !=2)=false:=by first|(simp;done)|(simp;omega)|omega|(simp_all;done)
   have f4:decide ((o.kind:Int)=2)=true:=by first|(simp;done)|(simp;omega)|omega|(simp_all;done)
   rw[if_pos k2] at hk
   by_cases e0:r.e=0
   · have b1:((r.e:Int)=0)=True:=by first|(simp;done)|(simp;omega)|omega|(simp_all;done)
     have b2:((r.e:Int)==0)=true:=by first|(simp;done)|(simp;omega)|omega|(simp_all;done)
     have b3:((r.e:Int) !=0)=false:=by first|(simp;done)|(simp;omega)|omega|(simp_all;done)
     have b4:decide ((r.e:Int)=0)=true:=by first|(simp;done)|(simp;omega)|omega|(simp_all;done)
     have c1:((r.e:Int)=12)=False:=by first|(simp;done)|(simp;omega)|omega|(simp_all;done)
     have c2:((r.e:Int)==12)=false:=by first|(simp;done)|(simp;omega)|omega|(simp_all;done)
     have c3:((r.e:Int) !=12)=true:=by first|(simp;done)|(simp;omega)|omega|(simp_all;done)
     have c4:decide ((r.e:Int)=12)=false:=by first|(simp;done)|(simp;omega)|omega|(simp_all;done)
     rw[e0] at hk;simp at hk;subst hk;clear k1 k2 h5 e0;go_enter Tryz.func98,Tryz.ntmps98;go_wp2_with (go_at_call 80;refine (HFI.out _ ((Below.refl _ _).alloc (Nat.le_refl _) _)).mono ?_;rintro e w9 ⟨rfl,rfl⟩);go_ret;exact⟨rfl,(Below.refl _ _).alloc (Nat.le_refl _) _⟩
   · have b1:((r.e:Int)=0)=False:=by first|(simp;done)|(simp;omega)|omega|(simp_all;done)
     have b2:((r.e:Int)==0)=false:=by first|(simp;done)|(simp;omega)|omega|(simp_all;done)
     have b3:((r.e:Int) !=0)=true:=by first|(simp;done)|(simp;omega)|omega|(simp_all;done)
     have b4:decide ((r.e:Int)=0)=false:=by first|(simp;done)|(simp;omega)|omega|(simp_all;done)
     by_cases e1:r.e=12
     · have c1:((r.e:Int)=12)=True:=by first|(simp;done)|(simp;omega)|omega|(simp_all;done)
       have c2:((r.e:Int)==12)=true:=by first|(simp;done)|(simp;omega)|omega|(simp_all;done)
       have c3:((r.e:Int) !=12)=false:=by first|(simp;done)|(simp;omega)|omega|(simp_all;done)
       have c4:decide ((r.e:Int)=12)=true:=by first|(simp;done)|(simp;omega)|omega|(simp_all;done)
       rw[e1] at hk;simp at hk;subst hk;clear k1 k2 h5 e0 e1;go_enter Tryz.func98,Tryz.ntmps98;go_wp2_with (go_at_call 80;refine (HFI.out _ ((Below.refl _ _).alloc (Nat.le_refl _) _)).mono ?_;rintro e w9 ⟨rfl,rfl⟩);go_ret;exact⟨rfl,(Below.refl _ _).alloc (Nat.le_refl _) _⟩
     · have c1:((r.e:Int)=12)=False:=by first|(simp;done)|(simp;omega)|omega|(simp_all;done)
       have c2:((r.e:Int)==12)=false:=by first|(simp;done)|(simp;omega)|omega|(simp_all;done)
       have c3:((r.e:Int) !=12)=true:=by first|(simp;done)|(simp;omega)|omega|(simp_all;done)
       have c4:decide ((r.e:Int)=12)=false:=by first|(simp;done)|(simp;omega)|omega|(simp_all;done)
       clear hk k1 k2 h5 e0 e1;go_enter Tryz.func98,Tryz.ntmps98;go_wp2_with (go_at_call 80;refine (HFI.out _ ((Below.refl _ _).alloc (Nat.le_refl _) _)).mono ?_;rintro e w9 ⟨rfl,rfl⟩);go_ret;exact⟨rfl,(Below.refl _ _).alloc (Nat.le_refl _) _⟩
 have f1:((o.kind:Int)=2)=False:=by first|(simp;done)|(simp;omega)|omega|(simp_all;done)
 have f2:((o.kind:Int)==2)=false:=by first|(simp;done)|(simp;omega)|omega|(simp_all;done)
 have f3:((o.kind:Int) !=2)=true:=by first|(simp;done)|(simp;omega)|omega|(simp_all;done)
 have f4:decide ((o.kind:Int)=2)=false:=by first|(simp;done)|(simp;omega)|omega|(simp_all;done)
 rw[if_neg k2] at hk
 by_cases k34:o.kind=3∨o.kind=4
 · rw[if_pos k34] at hk
   by_cases k3:o.kind=3
   · have g1:((o.kind:Int)=3)=True:=by first|(simp;done)|(simp;omega)|omega|(simp_all;done)
     have g2:((o.kind:Int)==3)=true:=by first|(simp;done)|(simp;omega)|omega|(simp_all;done)
     have g3:((o.kind:Int) !=3)=false:=by first|(simp;done)|(simp;omega)|omega|(simp_all;done)
     have g4:decide ((o.kind:Int)=3)=true:=by first|(simp;done)|(simp;omega)|omega|(simp_all;done)
     by_cases e0:r.e=0
     · have b1:((r.e:Int)=0)=True:=by first|(simp;done)|(simp;omega)|omega|(simp_all;done)
       have b2:((r.e:Int)==0)=true:=by first|(simp;done)|(simp;omega)|omega|(simp_all;done)
       have b3:((r.e:Int) !=0)=false:=by first|(simp;done)|(simp;omega)|omega|(simp_all;done)
       have b4:decide ((r.e:Int)=0)=true:=by first|(simp;done)|(simp;omega)|omega|(simp_all;done)
       have c1:((r.e:Int)=11)=False:=by first|(simp;done)|(simp;omega)|omega|(simp_all;done)
       have c2:((r.e:Int)==11)=false:=by first|(simp;done)|(simp;omega)|omega|(simp_all;done)
       have c3:((r.e:Int) !=11)=true:=by first|(simp;done)|(simp;omega)|omega|(simp_all;done)
       have c4:decide ((r.e:Int)=11)=false:=by first|(simp;done)|(simp;omega)|omega|(simp_all;done)
       rw[e0] at hk;simp at hk;subst hk;clear k1 k2 k3 k34 h5 e0;go_enter Tryz.func98,Tryz.ntmps98;go_wp2_with (go_at_call 80;refine (HFI.out _ ((Below.refl _ _).alloc (Nat.le_refl _) _)).mono ?_;rintro e w9 ⟨rfl,rfl⟩);go_ret;exact⟨rfl,(Below.refl _ _).alloc (Nat.le_refl _) _⟩
     · have b1:((r.e:Int)=0)=False:=by first|(simp;done)|(simp;omega)|omega|(simp_all;done)
       have b2:((r.e:Int)==0)=false:=by first|(simp;done)|(simp;omega)|omega|(simp_all;done)
       have b3:((r.e:Int) !=0)=true:=by first|(simp;done)|(simp;omega)|omega|(simp_all;done)
       have b4:decide ((r.e:Int)=0)=false:=by first|(simp;done)|(simp;omega)|omega|(simp_all;done)
       by_cases e1:r.e=11
       · have c1:((r.e:Int)=11)=True:=by first|(simp;done)|(simp;omega)|omega|(simp_all;done)
         have c2:((r.e:Int)==11)=true:=by first|(simp;done)|(simp;omega)|omega|(simp_all;done)
         have c3:((r.e:Int) !=11)=false:=by first|(simp;done)|(simp;omega)|omega|(simp_all;done)
         have c4:decide ((r.e:Int)=11)=true:=by first|(simp;done)|(simp;omega)|omega|(simp_all;done)
         rw[e1] at hk;simp at hk;subst hk;clear k1 k2 k3 k34 h5 e0 e1;go_enter Tryz.func98,Tryz.ntmps98;go_wp2_with (go_at_call 80;refine (HFI.out _ ((Below.refl _ _).alloc (Nat.le_refl _) _)).mono ?_;rintro e w9 ⟨rfl,rfl⟩);go_ret;exact⟨rfl,(Below.refl _ _).alloc (Nat.le_refl _) _⟩
       · have c1:((r.e:Int)=11)=False:=by first|(simp;done)|(simp;omega)|omega|(simp_all;done)
         have c2:((r.e:Int)==11)=false:=by first|(simp;done)|(simp;omega)|omega|(simp_all;done)
         have c3:((r.e:Int) !=11)=true:=by first|(simp;done)|(simp;omega)|omega|(simp_all;done)
         have c4:decide ((r.e:Int)=11)=false:=by first|(simp;done)|(simp;omega)|omega|(simp_all;done)
         clear hk k1 k2 k3 k34 h5 e0 e1;go_enter Tryz.func98,Tryz.ntmps98;go_wp2_with (go_at_call 80;refine (HFI.out _ ((Below.refl _ _).alloc (Nat.le_refl _) _)).mono ?_;rintro e w9 ⟨rfl,rfl⟩);go_ret;exact⟨rfl,(Below.refl _ _).alloc (Nat.le_refl _) _⟩
   · have k4:o.kind=4:=k34.resolve_left k3
     have g1:((o.kind:Int)=3)=False:=by first|(simp;done)|(simp;omega)|omega|(simp_all;done)
     have g2:((o.kind:Int)==3)=false:=by first|(simp;done)|(simp;omega)|omega|(simp_all;done)
     have g3:((o.kind:Int) !=3)=true:=by first|(simp;done)|(simp;omega)|omega|(simp_all;done)
     have g4:decide ((o.kind:Int)=3)=false:=by first|(simp;done)|(simp;omega)|omega|(simp_all;done)
     have h1:((o.kind:Int)=4)=True:=by first|(simp;done)|(simp;omega)|omega|(simp_all;done)
     have h2:((o.kind:Int)==4)=true:=by first|(simp;done)|(simp;omega)|omega|(simp_all;done)
     have h3:((o.kind:Int) !=4)=false:=by first|(simp;done)|(simp;omega)|omega|(simp_all;done)
     have h4:decide ((o.kind:Int)=4)=true:=by first|(simp;done)|(simp;omega)|omega|(simp_all;done)
     by_cases e0:r.e=0
     · have b1:((r.e:Int)=0)=True:=by first|(simp;done)|(simp;omega)|omega|(simp_all;done)
       have b2:((r.e:Int)==0)=true:=by first|(simp;done)|(simp;omega)|omega|(simp_all;done)
       have b3:((r.e:Int) !=0)=false:=by first|(simp;done)|(simp;omega)|omega|(simp_all;done)
       have b4:decide ((r.e:Int)=0)=true:=by first|(simp;done)|(simp;omega)|omega|(simp_all;done)
       have c1:((r.e:Int)=11)=False:=by first|(simp;done)|(simp;omega)|omega|(simp_all;done)
       have c2:((r.e:Int)==11)=false:=by first|(simp;done)|(simp;omega)|omega|(simp_all;done)
       have c3:((r.e:Int) !=11)=true:=by first|(simp;done)|(simp;omega)|omega|(simp_all;done)
       have c4:decide ((r.e:Int)=11)=false:=by first|(simp;done)|(simp;omega)|omega|(simp_all;done)
       rw[e0] at hk;simp at hk;subst hk;clear k1 k2 k3 k4 k34 h5 e0;go_enter Tryz.func98,Tryz.ntmps98;go_wp2_with (go_at_call 80;refine (HFI.out _ ((Below.refl _ _).alloc (Nat.le_refl _) _)).mono ?_;rintro e w9 ⟨rfl,rfl⟩);go_ret;exact⟨rfl,(Below.refl _ _).alloc (Nat.le_refl _) _⟩
     · have b1:((r.e:Int)=0)=False:=by first|(simp;done)|(simp;omega)|omega|(simp_all;done)
       have b2:((r.e:Int)==0)=false:=by first|(simp;done)|(simp;omega)|omega|(simp_all;done)
       have b3:((r.e:Int) !=0)=true:=by first|(simp;done)|(simp;omega)|omega|(simp_all;done)
       have b4:decide ((r.e:Int)=0)=false:=by first|(simp;done)|(simp;omega)|omega|(simp_all;done)
       by_cases e1:r.e=11
       · have c1:((r.e:Int)=11)=True:=by first|(simp;done)|(simp;omega)|omega|(simp_all;done)
         have c2:((r.e:Int)==11)=true:=by first|(simp;done)|(simp;omega)|omega|(simp_all;done)
         have c3:((r.e:Int) !=11)=false:=by first|(simp;done)|(simp;omega)|omega|(simp_all;done)
         have c4:decide ((r.e:Int)=11)=true:=by first|(simp;done)|(simp;omega)|omega|(simp_all;done)
         rw[e1] at hk;simp at hk;subst hk;clear k1 k2 k3 k4 k34 h5 e0 e1;go_enter Tryz.func98,Tryz.ntmps98;go_wp2_with (go_at_call 80;refine (HFI.out _ ((Below.refl _ _).alloc (Nat.le_refl _) _)).mono ?_;rintro e w9 ⟨rfl,rfl⟩);go_ret;exact⟨rfl,(Below.refl _ _).alloc (Nat.le_refl _) _⟩
       · have c1:((r.e:Int)=11)=False:=by first|(simp;done)|(simp;omega)|omega|(simp_all;done)
         have c2:((r.e:Int)==11)=false:=by first|(simp;done)|(simp;omega)|omega|(simp_all;done)
         have c3:((r.e:Int) !=11)=true:=by first|(simp;done)|(simp;omega)|omega|(simp_all;done)
         have c4:decide ((r.e:Int)=11)=false:=by first|(simp;done)|(simp;omega)|omega|(simp_all;done)
         clear hk k1 k2 k3 k4 k34 h5 e0 e1;go_enter Tryz.func98,Tryz.ntmps98;go_wp2_with (go_at_call 80;refine (HFI.out _ ((Below.refl _ _).alloc (Nat.le_refl _) _)).mono ?_;rintro e w9 ⟨rfl,rfl⟩);go_ret;exact⟨rfl,(Below.refl _ _).alloc (Nat.le_refl _) _⟩
 have k3:o.kind≠3:=fun x=>k34 (.inl x)
 have k4:o.kind≠4:=fun x=>k34 (.inr x)
 have g1:((o.kind:Int)=3)=False:=by first|(simp;done)|(simp;omega)|omega|(simp_all;done)
 have g2:((o.kind:Int)==3)=false:=by first|(simp;done)|(simp;omega)|omega|(simp_all;done)
 have g3:((o.kind:Int) !=3)=true:=by first|(simp;done)|(simp;omega)|omega|(simp_all;done)
 have g4:decide ((o.kind:Int)=3)=false:=by first|(simp;done)|(simp;omega)|omega|(simp_all;done)
 have h1:((o.kind:Int)=4)=False:=by first|(simp;done)|(simp;omega)|omega|(simp_all;done)
 have h2:((o.kind:Int)==4)=false:=by first|(simp;done)|(simp;omega)|omega|(simp_all;done)
 have h3:((o.kind:Int) !=4)=true:=by first|(simp;done)|(simp;omega)|omega|(simp_all;done)
 have h4:decide ((o.kind:Int)=4)=false:=by first|(simp;done)|(simp;omega)|omega|(simp_all;done)
 have i1:((o.kind:Int)=5)=False:=by first|(simp;done)|(simp;omega)|omega|(simp_all;done)
 have i2:((o.kind:Int)==5)=false:=by first|(simp;done)|(simp;omega)|omega|(simp_all;done)
 have i3:((o.kind:Int) !=5)=true:=by first|(simp;done)|(simp;omega)|omega|(simp_all;done)
 have i4:decide ((o.kind:Int)=5)=false:=by first|(simp;done)|(simp;omega)|omega|(simp_all;done)
 clear hk k1 k2 k3 k4 k34 h5;go_enter Tryz.func98,Tryz.ntmps98;go_wp2_with (go_at_call 80;refine (HFI.out _ ((Below.refl _ _).alloc (Nat.le_refl _) _)).mono ?_;rintro e w9 ⟨rfl,rfl⟩);go_ret;exact⟨rfl,(Below.refl _ _).alloc (Nat.le_refl _) _⟩
theorem holdsL_drop:∀ (ops:List (En.Op×Res)) (m:Nat) (view:List (Nat×Nat)),holdsL ops view=true→holdsL (ops.drop m) (laidL view (ops.take m))=true
 |ops,0,view,h=>h
 |[],m+1,view,h=>rfl
 |c::ops,m+1,view,h=>by
  unfold holdsL at h;rw[Bool.and_eq_true] at h;exact holdsL_drop ops m (laidP view c) h.2
theorem laidL_len:∀ (ops:List (En.Op×Res)) (ps:List (Nat×Nat)),(laidL ps ops).length≤ps.length+ops.length
 |[],ps=>Nat.le_refl _
 |c::ops,ps=>by have:=laidL_len ops (laidP ps c);have:=laidP_len ps c;show (laidL (laidP ps c) ops).length≤_;rw[List.length_cons];omega
theorem laidL_next {ops:List (En.Op×Res)} {ps:List (Nat×Nat)} {m:Nat} {x:En.Op×Res} (h:ops[m]? =some x):laidL ps (ops.take (m+1))=laidP (laidL ps (ops.take m)) x:=by
 rw[List.take_add_one,h];unfold laidL;rw[List.foldl_append];rfl
theorem PR.form' {w:World} {v:Value} {ps:List (Nat×Nat)} (h:PR w v ps):∃ av cv,v=.slice av ps.length cv:=by
 obtain⟨a,c,e,-⟩:=h.form;exact⟨a,c,e⟩
theorem DM.one {w:World} {a:Option Addr} {n c:Nat} {l:List Dq} (hM:DM w (.slice a n c) l) {k:Nat} {d:Dq} (hd:l[k]? =some d):n=l.length∧∃ g off ao oc,a=some ⟨g,off,none⟩∧g<w.heap.size∧(∀ j,j<6→w.cell? ⟨g,off+(k*6+j),none⟩=(dqCs d (.slice ao d.ops.length oc))[j]?)∧CM w (.slice ao d.ops.length oc) d.ops:=by
 have hkl:k<l.length:=(List.getElem?_eq_some_iff.1 hd).1;obtain⟨a1,c1,e1,h1⟩:=hM;simp only[Value.slice.injEq] at e1;obtain⟨rfl,rfl,rfl⟩:=e1;obtain⟨g,off,rfl,hg,hx⟩:=h1.resolve_left (by omega);obtain⟨vo,hcm,hj⟩:=hx k d hd;have hcm':=hcm;obtain⟨ao,oc,rfl,-⟩:=hcm;exact⟨rfl,g,off,ao,oc,rfl,hg,hj,hcm'⟩
theorem CM.one {w:World} {ao:Option Addr} {n oc:Nat} {ops:List (En.Op×Res)} (h:CM w (.slice ao n oc) ops) {m:Nat} {x:En.Op×Res} (hx:ops[m]? =some x):n=ops.length∧∃ g off va vn vc,ao=some ⟨g,off,none⟩∧g<w.heap.size∧PR w (.slice va vn vc) x.2.pairs∧∀ j,j<9→w.cell? ⟨g,off+(m*9+j),none⟩=(cqCs x.1 x.2 (.slice va vn vc))[j]? :=by
 have hml:m<ops.length:=(List.getElem?_eq_some_iff.1 hx).1;obtain⟨a1,c1,e1,h1⟩:=h;simp only[Value.slice.injEq] at e1;obtain⟨rfl,rfl,rfl⟩:=e1;obtain⟨g,off,rfl,hg,h2⟩:=h1.resolve_left (by omega);obtain⟨va,vn,vc,h3,h4⟩:=h2 m x hx;exact⟨rfl,g,off,va,vn,vc,rfl,hg,h3,h4⟩
theorem holdsKD_any (w:World) (vd:Value) (l:List Dq) (k at_:Nat) (d:Dq) (hd:l[k]? =some d) (hM:DM w vd l) (hn:l.length≤1000) (hat:at_<9223372036854775808) (hS:untS l (List.replicate l.length false)≤900000) (ho:d.ops.length≤1000) (h5:∀ x∈d.ops,x.1.kind≠5) (hh:holdsK l k at_=true):
 Calls Tryz.prog 78 #[vd,zi (k:Int),zu (at_:Int)] w fun e w'=>e=.returned (.bool true)∧Below w.heap.size w w':=by
 have hkl:k<l.length:=(List.getElem?_eq_some_iff.1 hd).1;have hST:Hid (Calls Tryz.prog 75 #[vd,zu (at_:Int),zi (k:Int)] w fun e w'=>∃ av n cv,e=.returned (.slice av n cv)∧PR w' (.slice av n cv) (stateD l at_ k)∧n=(stateD l at_ k).length∧n≤900000∧Below w.heap.size w w'):=zH (stateD_any w vd l at_ k (k:Int) hM hn hat (fun j hj=>by omega) 900000 (by omega) hS);have HDM:Hid (∀ w',Below w.heap.size w w'→DM w' vd l):=zH fun w' hb=>hM.below hb
 obtain⟨a,c,e1,-⟩:=hM;subst e1;obtain⟨n,hnn⟩:∃ n,n=l.length:=⟨_,rfl⟩
 rw[←hnn] at HDM hn hkl hST ⊢;unfold holdsK at hh;have hgd:l.getD k default=d:=by rw[List.getD_eq_getElem?_getD,hd];rfl
 rw[hgd] at hh;have c2:(0:Int)≤(k:Int):=by omega
 have c3:(k:Int)<(n:Int):=by omega
 have H0:=zH (zA hh (zA ho (zA h5 hd)));clear hd hn hat hS ho h5 hh hkl hnn hgd;generalize stateD l at_ k=v0 at*;go_enter Tryz.func78,Tryz.ntmps78;go_wp2_with (go_at_call 75;refine (hST.out).mono ?_;rintro e w1 ⟨av,pn,cv,rfl,q1,q2,q3,q4⟩;have T0:=zH (zA q1 (zA q2 (zA q3 q4)));clear q1 q2 q3 q4 hST)
 go_loopw [7,8] (fun view i wr=>∃ mm:Nat,i=zi (mm:Int)∧mm≤d.ops.length∧PR wr view (laidL v0 (d.ops.take mm))∧Below w.heap.size w wr) (fun _ i _=>d.ops.length - (intOf i).toNat)
 case atStart=>exact⟨0,rfl,Nat.zero_le _,by rw[List.take_zero];exact T0.out.1,T0.out.2.2.2⟩
 case round=>
  rename World=>wq
  obtain⟨mm,rfl,hmm,hP,hb⟩:=hrel;obtain⟨hh,ho,h5,hd⟩:=H0.out;obtain⟨av2,cv2,rfl⟩:=hP.form';obtain⟨-,g,off,ao,oc,rfl,hg,hj,hcm⟩:=(HDM.out wq hb).one hd;have D5:wq.cell? ⟨g,off+k*6+5,none⟩=some (.slice ao d.ops.length oc):=by have:=hj 5 (by omega);rw[Nat.add_assoc];exact this
  obtain⟨pm,hpm⟩:∃ pm,pm=(laidL v0 (d.ops.take mm)).length:=⟨_,rfl⟩
  rw[←hpm] at hP ⊢;obtain⟨on,hon⟩:∃ on,on=d.ops.length:=⟨_,rfl⟩
  rw[←hon] at D5 hmm ho;have n3:IntKind.i64.wrap ((mm:Int)+1)=(mm:Int)+1:=by rw[IntKind.wrap_i64];omega
  by_cases hlt:mm<on
  · obtain⟨x,hxm⟩:∃ x,d.ops[mm]? =some x:=⟨_,List.getElem?_eq_getElem (by omega)⟩
    obtain⟨-,g2,off2,va,vn,vc,rfl,hg2,hpx,hxj⟩:=hcm.one hxm;have Y0:wq.cell? ⟨g2,off2+mm*9,none⟩=some (zi (x.1.kind:Int)):=by have:=hxj 0 (by omega);rw[Nat.add_zero] at this;exact this
    have Y1:wq.cell? ⟨g2,off2+mm*9+1,none⟩=some (zi (x.1.key:Int)):=by have:=hxj 1 (by omega);rw[Nat.add_assoc];exact this
    have Y2:wq.cell? ⟨g2,off2+mm*9+2,none⟩=some (zi (x.1.hi:Int)):=by have:=hxj 2 (by omega);rw[Nat.add_assoc];exact this
    have Y3:wq.cell? ⟨g2,off2+mm*9+3,none⟩=some (zi (x.1.value:Int)):=by have:=hxj 3 (by omega);rw[Nat.add_assoc];exact this
    have Y4:wq.cell? ⟨g2,off2+mm*9+4,none⟩=some (zi (x.2.e:Int)):=by have:=hxj 4 (by omega);rw[Nat.add_assoc];exact this
    have Y5:wq.cell? ⟨g2,off2+mm*9+5,none⟩=some (zi (x.2.value:Int)):=by have:=hxj 5 (by omega);rw[Nat.add_assoc];exact this
    have Y6:wq.cell? ⟨g2,off2+mm*9+6,none⟩=some (.slice va vn vc):=by have:=hxj 6 (by omega);rw[Nat.add_assoc];exact this
    have Y7:wq.cell? ⟨g2,off2+mm*9+7,none⟩=some (zi (x.2.over:Int)):=by have:=hxj 7 (by omega);rw[Nat.add_assoc];exact this
    have Y8:wq.cell? ⟨g2,off2+mm*9+8,none⟩=some (zi (x.2.reason:Int)):=by have:=hxj 8 (by omega);rw[Nat.add_assoc];exact this
    have c0:((mm:Int)<(on:Int))=True:=by simp;omega
    have c1:(mm:Int)<(on:Int):=by omega
    have c4:(0:Int)≤(mm:Int):=by omega
    have hll:=laidL_len (d.ops.take mm) v0;rw[List.length_take] at hll;have hle:(laidL v0 (d.ops.take mm)).length≤1000000:=by have:=T0.out.2.1;have:=T0.out.2.2.1;omega
    have hdr:=holdsL_drop d.ops mm v0 hh;have hdx:d.ops.drop mm=x::d.ops.drop (mm+1):=by
     obtain⟨h1,h2⟩:=List.getElem?_eq_some_iff.1 hxm;rw[List.drop_eq_getElem_cons h1,h2]
    rw[hdx] at hdr;unfold holdsL at hdr;rw[Bool.and_eq_true] at hdr;have HRI:=zH (rightD_any wq va vn vc av2 pm cv2 (laidL v0 (d.ops.take mm)) x hP hle (h5 x (List.mem_of_getElem? hxm)) hdr.1);have HLA:=zH fun (w':World) (hb':Below wq.heap.size wq w')=>laidD_any w' 0 av2 pm cv2 va vn vc (laidL v0 (d.ops.take mm)) x (PR.below hP hb') (Nat.zero_le _) hle
    have hnx:=laidL_next (ps:=v0) hxm;have HX:=zH (zA hnx (zA hlt (zA hb hon)));have HG:Hid (∀ w',Below wq.heap.size wq w'→w'.cell? ⟨g,off+k*6+5,none⟩=some (.slice (some ⟨g2,off2,none⟩) on oc)∧w'.cell? ⟨g2,off2+mm*9,none⟩=some (zi (x.1.kind:Int))∧w'.cell? ⟨g2,off2+mm*9+1,none⟩=some (zi (x.1.key:Int))∧w'.cell? ⟨g2,off2+mm*9+2,none⟩=some (zi (x.1.hi:Int))∧w'.cell? ⟨g2,off2+mm*9+3,none⟩=some (zi (x.1.value:Int))∧w'.cell? ⟨g2,off2+mm*9+4,none⟩=some (zi (x.2.e:Int))∧w'.cell? ⟨g2,off2+mm*9+5,none⟩=some (zi (x.2.value:Int))∧w'.cell? ⟨g2,off2+mm*9+6,none⟩=some (.slice va vn vc)∧w'.cell? ⟨g2,off2+mm*9+7,none⟩=some (zi (x.2.over:Int))∧w'.cell? ⟨g2,off2+mm*9+8,none⟩=some (zi (x.2.reason:Int))):=zH fun w' hb'=>⟨(hb'.cell (p:=⟨g,off+k*6+5,none⟩) hg).trans D5,(hb'.cell (p:=⟨g2,off2+mm*9,none⟩) hg2).trans Y0,(hb'.cell (p:=⟨g2,off2+mm*9+1,none⟩) hg2).trans Y1,(hb'.cell (p:=⟨g2,off2+mm*9+2,none⟩) hg2).trans Y2,(hb'.cell (p:=⟨g2,off2+mm*9+3,none⟩) hg2).trans Y3,(hb'.cell (p:=⟨g2,off2+mm*9+4,none⟩) hg2).trans Y4,(hb'.cell (p:=⟨g2,off2+mm*9+5,none⟩) hg2).trans Y5,(hb'.cell (p:=⟨g2,off2+mm*9+6,none⟩) hg2).trans Y6,(hb'.cell (p:=⟨g2,off2+mm*9+7,none⟩) hg2).trans Y7,(hb'.cell (p:=⟨g2,off2+mm*9+8,none⟩) hg2).trans Y8⟩
    clear hmm hP hh ho h5 hd hg hj hcm hpm hon hlt hxm hg2 hpx hxj hll hle hdr hdx hnx hb;go_wp2_with (first|(go_at_call 98;refine (HRI.out).mono ?_;rintro e w2 ⟨rfl,hb2⟩;have HB2:=zH hb2;obtain⟨D5',Z0,Z1,Z2,Z3,Z4,Z5,Z6,Z7,Z8⟩:=HG.out w2 hb2;clear hb2)|(go_at_call 97;refine (HLA.out _ HB2.out).mono ?_;rintro e w4 ⟨av4,n4,cv4,rfl,q1,q2,q3⟩;have HY:=zH (zA q1 (zA q2 q3));clear q1 q2 q3))
    go_roundw
    case rel=>
     obtain⟨hnx,hlt,hb,hon⟩:=HX.out;obtain⟨q1,q2,q3⟩:=HY.out;exact⟨mm+1,rfl,by omega,by rw[hnx];exact q2,(hb.trans (HB2.out.mono hb.size)).trans (q3.mono (Nat.le_trans hb.size HB2.out.size))⟩
    case measure=>have:=HX.out.2;simp[intOf];omega
  · obtain rfl:mm=on:=by omega
    have c0:((mm:Int)<(mm:Int))=False:=by simp
    have HX:=zH hb;clear hmm hP hh ho h5 hd hg hj hcm hpm hon hlt hb;go_wp2;go_ret;exact⟨rfl,HX.out⟩
structure HD (w:World) (vd:Value) (l:List Dq):Prop where
 m:DM w vd l
 n:l.length≤1000
 id:∀ k d,l[k]? =some d→d.id=k+1
 tm:∀ d∈l,d.begin_<9223372036854775808∧d.end_<9223372036854775808∧d.ops.length≤1000∧∀ x∈d.ops,x.1.kind≠5
 un:untS l (List.replicate l.length false)≤900000
theorem HD.below {w w':World} {vd:Value} {l:List Dq} (h:HD w vd l) (hb:Below w.heap.size w w'):HD w' vd l:=⟨h.m.below hb,h.n,h.id,h.tm,h.un⟩
theorem HD.doneD {w:World} {vd:Value} {l:List Dq} (h:HD w vd l) {i:Nat} {d:Dq} (hi:l[i]? =some d) (hs:d.state=3):Calls Tryz.prog 77 #[vd,zi ((i+1:Nat):Int)] w fun e w'=>e=.returned (zi (i:Int))∧w=w':=doneD_any w vd l i d h.m (by have:=h.n;omega) h.id hi hs
theorem HD.holdsD {w:World} {vd:Value} {l:List Dq} (h:HD w vd l) {i:Nat} {d:Dq} (hi:l[i]? =some d) {at_:Nat} (hat:at_<9223372036854775808) (hh:holdsK l i at_=true):Calls Tryz.prog 78 #[vd,zi (i:Int),zu (at_:Int)] w fun e w'=>e=.returned (.bool true)∧Below w.heap.size w w':=
 holdsKD_any w vd l i at_ d hi h.m h.n hat h.un (h.tm d (List.mem_of_getElem? hi)).2.2.1 (h.tm d (List.mem_of_getElem? hi)).2.2.2 hh
theorem HD.cell {w:World} {vd:Value} {l:List Dq} (h:HD w vd l) {i:Nat} {d:Dq} (hi:l[i]? =some d):∃ g off c,vd=.slice (some ⟨g,off,none⟩) l.length c∧g<w.heap.size∧w.cell? ⟨g,off+i*6,none⟩=some (zi (d.id:Int))∧w.cell? ⟨g,off+i*6+1,none⟩=some (zi (d.level:Int))∧w.cell? ⟨g,off+i*6+2,none⟩=some (zi (d.state:Int))∧w.cell? ⟨g,off+i*6+3,none⟩=some (zu (d.begin_:Int))∧w.cell? ⟨g,off+i*6+4,none⟩=some (zu (d.end_:Int)):=by
 have hm:=h.m;obtain⟨a,c,e,-⟩:=h.m;subst e;obtain⟨-,g,off,ao,oc,rfl,hg,hj,-⟩:=hm.one hi;refine⟨g,off,c,rfl,hg,?_,?_,?_,?_,?_⟩
 · have:=hj 0 (by omega);rw[Nat.add_zero] at this;exact this
 · have:=hj 1 (by omega);rw[Nat.add_assoc];exact this
 · have:=hj 2 (by omega);rw[Nat.add_assoc];exact this
 · have:=hj 3 (by omega);rw[Nat.add_assoc];exact this
 · have:=hj 4 (by omega);rw[Nat.add_assoc];exact this
theorem snapshotD_any {w:World} {vd:Value} {l:List Dq} (h:HD w vd l) {i:Nat} {d:Dq} (hi:l[i]? =some d) (hs:d.state=3) (hh:snapD l i=true):Calls Tryz.prog 50 #[vd,zi ((i+1:Nat):Int)] w fun e w'=>e=.returned (.bool true)∧Below w.heap.size w w':=by
 unfold snapD at hh;rw[show l.getD i default=d by rw[List.getD_eq_getElem?_getD,hi];rfl] at hh;have HHO:=zH (h.holdsD hi (h.tm d (List.mem_of_getElem? hi)).1 hh);have hil:i<l.length:=(List.getElem?_eq_some_iff.1 hi).1;have hn:=h.n;obtain⟨g,off,c,rfl,hg,-,-,-,X3,X4⟩:=h.cell hi;have HDN:=zH (h.doneD hi hs);have htm:=h.tm d (List.mem_of_getElem? hi);obtain⟨n,hnn⟩:∃ n,n=l.length:=⟨_,rfl⟩
 rw[←hnn] at HDN hil ⊢;obtain⟨z,hz⟩:∃ z:Int,z=((i+1:Nat):Int):=⟨_,rfl⟩
 rw[←hz] at HDN ⊢;have c2:(0:Int)≤(i:Int):=by omega
 have c3:(i:Int)<(n:Int):=by omega
 have c4:((0:Int)≤(i:Int))=True:=by simp
 have c5:decide ((0:Int)≤(i:Int))=true:=by simp
 rw[←hnn] at HHO;clear h hi hs hh hil hn htm hnn hz hg X4;go_enter Tryz.func50,Tryz.ntmps50;go_wp2_with (first|(go_at_call 77;refine (HDN.out).mono ?_;rintro e w1 ⟨rfl,rfl⟩)|(go_at_call 78;refine (HHO.out).mono ?_;rintro e w2 ⟨rfl,hb2⟩;have HB2:=zH hb2;clear hb2));go_ret;exact⟨rfl,HB2.out⟩
theorem serialD_any {w:World} {vd:Value} {l:List Dq} (h:HD w vd l) {i:Nat} {d:Dq} (hi:l[i]? =some d) (hs:d.state=3) (hh:serialD l i=true):Calls Tryz.prog 52 #[vd,zi ((i+1:Nat):Int)] w fun e w'=>e=.returned (.bool true)∧Below w.heap.size w w':=by
 unfold serialD at hh;rw[show l.getD i default=d by rw[List.getD_eq_getElem?_getD,hi];rfl] at hh;have HHO:=zH (h.holdsD hi (at_:=d.end_ - 1) (by have:=(h.tm d (List.mem_of_getElem? hi)).2.1;omega) hh);have HBF:=zH (beforeD_any w d.end_ (h.tm d (List.mem_of_getElem? hi)).2.1);have hil:i<l.length:=(List.getElem?_eq_some_iff.1 hi).1;have hn:=h.n;obtain⟨g,off,c,rfl,hg,-,-,-,X3,X4⟩:=h.cell hi;have HDN:=zH (h.doneD hi hs);have htm:=h.tm d (List.mem_of_getElem? hi);obtain⟨n,hnn⟩:∃ n,n=l.length:=⟨_,rfl⟩
 rw[←hnn] at HDN hil ⊢;obtain⟨z,hz⟩:∃ z:Int,z=((i+1:Nat):Int):=⟨_,rfl⟩
 rw[←hz] at HDN ⊢;have c2:(0:Int)≤(i:Int):=by omega
 have c3:(i:Int)<(n:Int):=by omega
 have c4:((0:Int)≤(i:Int))=True:=by simp
 have c5:decide ((0:Int)≤(i:Int))=true:=by simp
 rw[←hnn] at HHO;obtain⟨ez,hez⟩:∃ ez:Int,ez=((d.end_ - 1:Nat):Int):=⟨_,rfl⟩
 rw[←hez] at HHO HBF;clear h hi hs hh hil hn htm hnn hz hg X3 hez;go_enter Tryz.func52,Tryz.ntmps52;go_wp2_with (first|(go_at_call 77;refine (HDN.out).mono ?_;rintro e w1 ⟨rfl,rfl⟩)|(go_at_call 79;refine (HBF.out).mono ?_;rintro e w1 ⟨rfl,rfl⟩)|(go_at_call 78;refine (HHO.out).mono ?_;rintro e w2 ⟨rfl,hb2⟩;have HB2:=zH hb2;clear hb2));go_ret;exact⟨rfl,HB2.out⟩
end Go.Proofs.YtpkenfnmkpmapaaGreat.Em
