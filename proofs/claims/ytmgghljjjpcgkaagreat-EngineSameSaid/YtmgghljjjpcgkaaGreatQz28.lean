import Derived.Test.YtmgghljjjpcgkaaGreatQz26
import Derived.Test.YtmgghljjjpcgkaaGreatQz27
import Derived.Test.YtmgghljjjpcgkaaGreatQz25
import Derived.Deep.CutRange
namespace Go.Proofs.YtmgghljjjpcgkaaGreat.Em
open Go.ChangeShapes Go.WideShapes Go.ChangeAt Go.RowKit En
set_option linter.unusedVariables false
set_option linter.unusedSimpArgs false
set_option maxRecDepth 100000
set_option maxHeartbeats 1600000
variable {A:Book} {σ:St} {w:World}
def sI (s:Int):Bool:=decide (0≤s)&&decide (s<8)
def lI (l:Int):Bool:=decide (1≤l)&&decide (l≤3)
theorem sI_of {s:Int} (h:sI s=true):∃ n:Nat,s=n∧n<8:=by
 unfold sI at h;simp at h;exact⟨s.toNat,by omega,by omega⟩
theorem sI_nat {n:Nat} (h:n<8):sI n=true:=by unfold sI;simp;omega
theorem lI_of {l:Int} (h:lI l=true):∃ n:Nat,l=n∧1≤n∧n≤3:=by
 unfold lI at h;simp at h;exact⟨l.toNat,by omega,by omega,by omega⟩
theorem sessionI (s:Int) (w:World):Calls Tryz.prog 33 #[zi s] w fun e w'=>e=.returned (.bool (sI s))∧w=w':=by
 go_enter Tryz.func33,Tryz.ntmps33;go_wp2
 all_goals (
  go_ret
  refine⟨congrArg (fun b=>Ending.returned (Value.bool b)) ?_,rfl⟩
  rw[Bool.eq_iff_iff]
  unfold sI
  (try simp_all)<;>(try omega))
theorem levelI (s:Int) (w:World):Calls Tryz.prog 44 #[zi s] w fun e w'=>e=.returned (.bool (lI s))∧w=w':=by
 go_enter Tryz.func44,Tryz.ntmps44;go_wp2
 all_goals (
  go_ret
  refine⟨congrArg (fun b=>Ending.returned (Value.bool b)) ?_,rfl⟩
  rw[Bool.eq_iff_iff]
  unfold lI
  (try simp_all)<;>(try omega))
theorem begin_arg (be:Nat) (w:World) (s level:Int) (hb:sI s=false∨lI level=false):
 Calls Tryz.prog 21 #[.pointer (some ⟨be,0,none⟩),zi s,zi level] w fun e w'=>e=.returned (.tuple #[zi 0,zi 1])∧w=w':=by
 have hsok:=zH (sessionI s);have hlev:=zH (levelI level)
 cases h1:sI s with
 |false=>
  rw[h1] at hsok;clear hb hlev h1;go_enter Tryz.func21,Tryz.ntmps21;go_wp2_with (first|(go_at_call 33;refine (hsok.out _).mono ?_;rintro e w' ⟨rfl,rfl⟩))
  go_ret2
  exact⟨rfl,rfl⟩
 |true=>
  have h2:lI level=false:=hb.resolve_left (by rw[h1];simp);rw[h1] at hsok;rw[h2] at hlev;clear hb h1 h2;go_enter Tryz.func21,Tryz.ntmps21;go_wp2_with (first|(go_at_call 33;refine (hsok.out _).mono ?_;rintro e w' ⟨rfl,rfl⟩)|(go_at_call 44;refine (hlev.out _).mono ?_;rintro e w' ⟨rfl,rfl⟩))
  go_ret2
  exact⟨rfl,rfl⟩
theorem issue_arg (be:Nat) (w:World) (s k key hi v:Int) (hb:sI s=false):
 Calls Tryz.prog 22 #[.pointer (some ⟨be,0,none⟩),zi s,.agg #[zi k,zi key,zi hi,zi v]] w fun e w'=>e=.returned (zi 1)∧Below w.heap.size w w':=by
 have hsok:=zH (sessionI s);rw[hb] at hsok;have HB:=zH ((Below.refl _ w).alloc (Nat.le_refl _) (.cells #[zi k,zi key,zi hi,zi v] 28));clear hb;go_enter Tryz.func22,Tryz.ntmps22;go_wp2_with (first|(go_at_call 33;refine (hsok.out _).mono ?_;rintro e w' ⟨rfl,rfl⟩));go_ret;exact⟨rfl,HB.out⟩
theorem issue_no (hL:Live A σ w) (s:Nat) (hs:s<8) (k key hi v:Int) (hb:σ.txns.getD s none=none∨opI k key hi v=false∨(σ.calls.getD s none).isSome=true):
 Calls Tryz.prog 22 #[.pointer (some ⟨A.be,0,none⟩),zi (s:Int),.agg #[zi k,zi key,zi hi,zi v]] w fun e w'=>e=.returned (zi 9)∧Below w.heap.size w w':=by
 have hsok:=zH (sessionI (s:Int));rw[sI_nat hs] at hsok;have hok:=zH (modOpOk_any k key hi v);obtain⟨r0,g0,f0⟩:=allocs1 hL.rep #[zi k,zi key,zi hi,zi v] 28;have b1:(s:Int)<8:=by omega
 have b0:(0:Int)≤(s:Int):=by omega
 have hcf:A.vcall s=.pointer none∧σ.calls.getD s none=none∨A.vcall s=.pointer (some ⟨A.bc s,0,none⟩)∧(σ.calls.getD s none).isSome=true:=by
  cases e:σ.calls.getD s none with
  |none=>exact .inl ⟨hL.idle s hs e,rfl⟩
  |some c=>exact .inr ⟨(hL.call s hs c e).1,rfl⟩
 obtain⟨vc,hvc⟩:∃ vc,vc=A.vcall s:=⟨_,rfl⟩
 rw[←hvc] at hcf;obtain⟨vt,hvt⟩:∃ vt,vt=A.tp σ s:=⟨_,rfl⟩
 have htf:vt=.pointer none∧σ.txns.getD s none=none∨vt=.pointer (some ⟨A.bt s,0,none⟩)∧(σ.txns.getD s none).isSome=true:=by
  rw[hvt];unfold Book.tp
  cases e:σ.txns.getD s none with
  |none=>exact .inl ⟨rfl,rfl⟩
  |some t=>exact .inr ⟨rfl,rfl⟩
 have HW:Hid (∀ w',Below (w.alloc (.cells #[zi k,zi key,zi hi,zi v] 28)).heap.size (w.alloc (.cells #[zi k,zi key,zi hi,zi v] 28)) w'→Below w.heap.size w w'∧(w'.cell? ⟨w.heap.size,0,none⟩=some (zi k)∧w'.cell? ⟨w.heap.size,1,none⟩=some (zi key)∧w'.cell? ⟨w.heap.size,2,none⟩=some (zi hi)∧w'.cell? ⟨w.heap.size,3,none⟩=some (zi v))∧w'.cell? ⟨A.be,5+s,none⟩=some vt∧w'.cell? ⟨A.be,13+s,none⟩=some vc):=by
  intro w' hb;have r:=r0.below hb;have f:=f0.grow (Grow.below (L:=A.L) hb);exact⟨((Below.refl _ _).alloc (Nat.le_refl _) _).trans (hb.mono (by simp)),⟨f.cell 0 rfl,f.cell 1 rfl,f.cell 2 rfl,f.cell 3 rfl⟩,by rw[hvt];exact r.eng (5+s) (engCs_txn A σ hs),by rw[hvc];exact r.eng (13+s) (engCs_call A σ hs)⟩
 obtain⟨hb0,⟨o0,o1,o2,o3⟩,v1,v2⟩:=HW.out _ (Below.refl _ _);have HB0:=zH hb0;clear hL r0 g0 f0 hs hb0 hvc hvt
 rcases htf with ⟨rfl,ht⟩|⟨rfl,ht⟩
 · clear hcf hb ht
   go_enter Tryz.func22,Tryz.ntmps22;go_wp2_with (first|(go_at_call 33;refine (hsok.out _).mono ?_;rintro e w' ⟨rfl,rfl⟩));go_ret;exact⟨rfl,HB0.out⟩
 · replace hb:opI k key hi v=false∨(σ.calls.getD s none).isSome=true:=hb.resolve_left (fun e=>by rw[e] at ht;cases ht)
   cases ho:opI k key hi v with
   |false=>
    rw[ho] at hok;clear hcf hb ht ho;go_enter Tryz.func22,Tryz.ntmps22;go_wp2_with (first|(go_at_call 33;refine (hsok.out _).mono ?_;rintro e w' ⟨rfl,rfl⟩)|(go_at_call 54;refine (hok.out _).mono ?_;rintro e w1 ⟨rfl,hb⟩;have H1:=zH (HW.out w1 hb).1;clear hb));go_ret;exact⟨rfl,H1.out⟩
   |true=>
    rcases hcf with ⟨_,hc⟩|⟨rfl,hc⟩
    · rw[ho,hc] at hb
      rcases hb with hb|hb<;>cases hb
    rw[ho] at hok;clear hb ht ho hc;go_enter Tryz.func22,Tryz.ntmps22;go_wp2_with (first|(go_at_call 33;refine (hsok.out _).mono ?_;rintro e w' ⟨rfl,rfl⟩)|(go_at_call 54;refine (hok.out _).mono ?_;rintro e w1 ⟨rfl,hb⟩;obtain⟨hbb,⟨y0,y1,y2,y3⟩,x1,x2⟩:=HW.out w1 hb;have H1:=zH hbb;clear hb hbb));go_ret;exact⟨rfl,H1.out⟩
theorem step_arg (be:Nat) (w:World) (s:Int) (hb:sI s=false):
 Calls Tryz.prog 23 #[.pointer (some ⟨be,0,none⟩),zi s] w fun e w'=>e=.returned (.tuple #[.agg #[zi 0,zi 0,zi 0,.slice none 0 0,zi 0,zi 0],zi 1])∧Below w.heap.size w w':=by
 have hsok:=zH (sessionI s);rw[hb] at hsok;have HB:=zH ((Below.refl _ w).alloc (Nat.le_refl _) (.cells #[zi 0,zi 0,zi 0,.slice none 0 0,zi 0,zi 0] 65));clear hb;go_enter Tryz.func23,Tryz.ntmps23;go_wp2_with (first|(go_at_call 33;refine (hsok.out _).mono ?_;rintro e w' ⟨rfl,rfl⟩));refine bodyPost_ret (results_cell_tmp_row rfl _ _ w.heap.size 65 #[zi 0,zi 0,zi 0,.slice none 0 0,zi 0,zi 0] _ _ rfl (heap_alloc_new w _) Tryz.underlying65 rfl (by kernel_rfl)) rfl ?_;exact⟨rfl,HB.out⟩
theorem step_no (hL:Live A σ w) (s:Nat) (hs:s<8) (hn:σ.calls.getD s none=none):
 Calls Tryz.prog 23 #[.pointer (some ⟨A.be,0,none⟩),zi (s:Int)] w fun e w'=>e=.returned (.tuple #[.agg #[zi 0,zi 0,zi 0,.slice none 0 0,zi 0,zi 0],zi 9])∧Below w.heap.size w w':=by
 have hsok:=zH (sessionI (s:Int));rw[sI_nat hs] at hsok;have b1:(s:Int)<8:=by omega
 have b0:(0:Int)≤(s:Int):=by omega
 have HB:=zH ((Below.refl _ w).alloc (Nat.le_refl _) (.cells #[zi 0,zi 0,zi 0,.slice none 0 0,zi 0,zi 0] 65));have v1:(w.alloc (.cells #[zi 0,zi 0,zi 0,.slice none 0 0,zi 0,zi 0] 65)).cell? ⟨A.be,13+s,none⟩=some (.pointer none):=((hL.rep.alloc _).eng (13+s) (engCs_call A σ hs)).trans (by rw[hL.idle s hs hn]);clear hL hs hn;go_enter Tryz.func23,Tryz.ntmps23;go_wp2_with (first|(go_at_call 33;refine (hsok.out _).mono ?_;rintro e w' ⟨rfl,rfl⟩));refine bodyPost_ret (results_cell_tmp_row rfl _ _ w.heap.size 65 #[zi 0,zi 0,zi 0,.slice none 0 0,zi 0,zi 0] _ _ rfl (heap_alloc_new w _) Tryz.underlying65 rfl (by kernel_rfl)) rfl ?_;exact⟨rfl,HB.out⟩
theorem status_arg (be:Nat) (w:World) (s:Int) (hb:sI s=false):
 Calls Tryz.prog 9 #[.pointer (some ⟨be,0,none⟩),zi s] w fun e w'=>e=.returned (.agg (statusCs {}))∧Below w.heap.size w w':=by
 have hsok:=zH (sessionI s);rw[hb] at hsok;have HB:=zH ((Below.refl _ w).alloc (Nat.le_refl _) (.cells #[.bool false,.bool false,.bool false,zi 0,zi 0,zi 0,zu 0,zu 0,zi 0] 40));clear hb;go_enter Tryz.func9,Tryz.ntmps9;go_wp2_with (first|(go_at_call 33;refine (hsok.out _).mono ?_;rintro e w' ⟨rfl,rfl⟩));refine bodyPost_ret (results_cell_row rfl _ _ w.heap.size 40 #[.bool false,.bool false,.bool false,zi 0,zi 0,zi 0,zu 0,zu 0,zi 0] _ _ rfl (heap_alloc_new w _) Tryz.underlying40 rfl (by kernel_rfl)) rfl ?_;exact⟨rfl,HB.out⟩
theorem status_eq (lv bz wt:Bool) (a1 a2 a3 a4 a5 ops:Int) (w:World):(binOp .eql 40 (.agg #[.bool lv,.bool bz,.bool wt,zi a1,zi a2,zi a3,zu a4,zu a5,zi ops]) (.agg #[.bool lv,.bool bz,.bool wt,zi a1,zi a2,zi a3,zu a4,zu a5,zi ops])).run Tryz.prog w=.ok (.bool true) w:=by
 go_simp
theorem statusCs_form (st:Status):∃ (lv bz wt:Bool) (a1 a2 a3 a4 a5 ops:Int),statusCs st=#[.bool lv,.bool bz,.bool wt,zi a1,zi a2,zi a3,zu a4,zu a5,zi ops]∧bz=st.busy∧ops=(st.ops:Int):=⟨_,_,_,_,_,_,_,_,_,rfl,rfl,rfl⟩
theorem wbegin_no {B:WBook} {be:Nat} {w0 w:World} {ks:List Kept} {W:Wd} (h:WK B be w0 ks W w) (s level er:Int) (σ1:St) (her:er≠0) (hnow:σ1.now=W.σ.now) (hx:W.σ.word 0<18446744073709551616) (hx1:σ1.word 0<18446744073709551616)
 (HB:∀ ks w1,WK B be w0 ks W w1→Calls Tryz.prog 21 #[.pointer (some ⟨be,0,none⟩),zi s,zi level] w1 fun e w'=>e=.returned (.tuple #[zi 0,zi er])∧WK B be w0 ks {W with σ:=σ1} w'):
 Calls Tryz.prog 29 #[.pointer (some ⟨B.bw,0,none⟩),zi s,zi level] w fun e w'=>e=.returned (.bool true)∧WK B be w0 ks {W with σ:=σ1} w':=by
 obtain⟨nw,hnw⟩:∃ nw,nw=W.σ.now:=⟨_,rfl⟩
 have N1:=zH (now_wk h hx);rw[←hnw] at N1;have N2:=zH HB;have N3:Hid (∀ w1,WK B be w0 ks {W with σ:=σ1} w1→Calls Tryz.prog 27 #[.pointer (some ⟨be,0,none⟩)] w1 fun e w'=>e=.returned (zu (nw:Int))∧WK B be w0 ks {W with σ:=σ1} w'):=fun w1 q=>by
  have hh:=now_wk q hx1;rw[show ({W with σ:=σ1}:Wd).σ.now=nw by rw[hnw];exact hnow] at hh;exact hh
 have C:Hid (∀ σ' w1,WK B be w0 ks {W with σ:=σ'} w1→w1.cell? ⟨B.bw,0,none⟩=some (.pointer (some ⟨be,0,none⟩))):=fun σ' w1 q=>(q.wcell 0 rfl).1
 have x0:=C.out W.σ w h;have e1:(er==0)=false:=by simpa using her
 have e2:(er !=0)=true:=by simpa using her
 have e3:(er=0)=False:=by simpa using her
 have T0:=zH h;clear h HB hnow hx hx1 hnw her;go_enter Tryz.func29,Tryz.ntmps29;go_wp2_with (first|(go_at_call 27;refine N1.out.mono ?_;clear T0;rintro e w1 ⟨rfl,q⟩;have x1:=C.out W.σ w1 q;have T1:=zH q;clear q)|(go_at_call 21;refine (N2.out _ _ T1.out).mono ?_;rintro e w2 ⟨rfl,q⟩;have y0:=C.out σ1 w2 q;have T2:=zH q;clear q T1)|(go_at_call 27;refine (N3.out _ T2.out).mono ?_;rintro e w3 ⟨rfl,q⟩;have T3:=zH q;clear q T2));go_ret;exact⟨rfl,T3.out⟩
theorem wissue_no {B:WBook} {be:Nat} {w0 w:World} {ks:List Kept} {W:Wd} (h:WK B be w0 ks W w) (s k key hi v er:Int) (st:Status)
 (HS:∀ ks w1,WK B be w0 ks W w1→Calls Tryz.prog 9 #[.pointer (some ⟨be,0,none⟩),zi s] w1 fun e w'=>e=.returned (.agg (statusCs st))∧WK B be w0 ks W w')
 (HI:∀ ks w1,WK B be w0 ks W w1→Calls Tryz.prog 22 #[.pointer (some ⟨be,0,none⟩),zi s,.agg #[zi k,zi key,zi hi,zi v]] w1 fun e w'=>e=.returned (zi er)∧WK B be w0 ks W w')
 (hm:er=1∧(s<0∨7<s)∨∃ n id:Nat,s=(n:Int)∧n<8∧W.ids.getD n 0=id∧(er=9∧id=0∨er=9∧id≠0∧opI k key hi v=false∨id≠0∧opI k key hi v=true∧(er=9∧st.busy=true∨er=65∧st.busy=false∧k<6∧12≤st.ops))):
 Calls Tryz.prog 30 #[.pointer (some ⟨B.bw,0,none⟩),zi s,.agg #[zi k,zi key,zi hi,zi v]] w fun e w'=>e=.returned (.bool true)∧∃ ks',WK B be w0 (ks'++ks) W w':=by
 obtain⟨lv,bz,wt,a1,a2,a3,a4,a5,ops,hst,hbz,hops⟩:=statusCs_form st;rw[hst] at HS;have N1:=zH HS;have N2:=zH HI;have N3:=zH (refOpOk_any k key hi v);have heq:=status_eq lv bz wt a1 a2 a3 a4 a5 ops;have C:Hid (∀ ks w1,WK B be w0 ks W w1→w1.cell? ⟨B.bw,0,none⟩=some (.pointer (some ⟨be,0,none⟩))):=fun ks w1 q=>(q.wcell 0 rfl).1
 have O0:Hid (∀ ks w1 g,WK B be w0 (.obj g (.cells #[zi k,zi key,zi hi,zi v] 28)::ks) W w1→w1.cell? ⟨g,0,none⟩=some (zi k)∧w1.cell? ⟨g,1,none⟩=some (zi key)∧w1.cell? ⟨g,2,none⟩=some (zi hi)∧w1.cell? ⟨g,3,none⟩=some (zi v)):=fun ks w1 g q=>by
  have hb:=q.obj (List.mem_cons_self);exact⟨obj_cell hb 0 rfl,obj_cell hb 1 rfl,obj_cell hb 2 rfl,obj_cell hb 3 rfl⟩
 have O1:Hid (∀ ks w1 g,WK B be w0 (.obj g (.cells #[.bool lv,.bool bz,.bool wt,zi a1,zi a2,zi a3,zu a4,zu a5,zi ops] 40)::ks) W w1→w1.cell? ⟨g,0,none⟩=some (.bool lv)∧w1.cell? ⟨g,1,none⟩=some (.bool bz)∧w1.cell? ⟨g,2,none⟩=some (.bool wt)∧w1.cell? ⟨g,3,none⟩=some (zi a1)∧w1.cell? ⟨g,4,none⟩=some (zi a2)∧w1.cell? ⟨g,5,none⟩=some (zi a3)∧w1.cell? ⟨g,6,none⟩=some (zu a4)∧w1.cell? ⟨g,7,none⟩=some (zu a5)∧w1.cell? ⟨g,8,none⟩=some (zi ops)):=fun ks w1 g q=>by
  have hb:=q.obj (List.mem_cons_self);exact⟨obj_cell hb 0 rfl,obj_cell hb 1 rfl,obj_cell hb 2 rfl,obj_cell hb 3 rfl,obj_cell hb 4 rfl,obj_cell hb 5 rfl,obj_cell hb 6 rfl,obj_cell hb 7 rfl,obj_cell hb 8 rfl⟩
 have HO:Hid (∀ ks w1 g g0,WK B be w0 (.obj g (.cells #[.bool lv,.bool bz,.bool wt,zi a1,zi a2,zi a3,zu a4,zu a5,zi ops] 40)::.obj g0 (.cells #[zi k,zi key,zi hi,zi v] 28)::ks) W w1→w1.cell? ⟨g0,0,none⟩=some (zi k)∧w1.cell? ⟨g0,1,none⟩=some (zi key)∧w1.cell? ⟨g0,2,none⟩=some (zi hi)∧w1.cell? ⟨g0,3,none⟩=some (zi v)):=fun ks w1 g g0 q=>O0.out _ _ _ q.tail
 have T0:=zH (h.alloc (.cells #[zi k,zi key,zi hi,zi v] 28));have x0:=C.out _ _ T0.out;obtain⟨o0,o1,o2,o3⟩:=O0.out _ _ _ T0.out;have i8:=h.i8;have hid:Hid (∀ n:Nat,n<8→∀ ks w1,WK B be w0 ks W w1→w1.cell? ⟨B.bw,2+n,none⟩=some (zi ((W.ids.getD n 0:Nat):Int))):=fun n hn ks w1 q=>(q.wcell (2+n) (worldCs_id i8 hn)).1
 have HW:Hid (∃ X:Unit,True):=⟨(),trivial⟩
 clear h HS HI hst i8;have F:(er=1∧(((s<0)=True∧decide (s<0)=true)∨((s<0)=False∧decide (s<0)=false∧(7<s)=True∧decide (7<s)=true)))∨(∃ n id:Nat,s=(n:Int)∧n<8∧W.ids.getD n 0=id∧(er=9∧id=0∨er=9∧(((id:Int)==0)=false∧((id:Int)=0)=False∧(id=0)=False)∧opI k key hi v=false∨(((id:Int)==0)=false∧((id:Int)=0)=False∧(id=0)=False)∧opI k key hi v=true∧(er=9∧bz=true∨er=65∧bz=false∧((k<6)=True∧decide (k<6)=true)∧((12≤ops)=True∧decide (12≤ops)=true)))):=by
  rcases hm with ⟨e1,e2⟩|⟨n,id,e1,e2,e3,e4⟩
  · refine .inl ⟨e1,?_⟩
    by_cases h0:s<0
    · exact .inl ⟨by simpa using h0,by simpa using h0⟩
    · have h7:7<s:=e2.resolve_left h0
      exact .inr ⟨by simpa using h0,by simpa using h0,by simpa using h7,by simpa using h7⟩
  · refine .inr ⟨n,id,e1,e2,e3,?_⟩
    rcases e4 with e4|⟨e4,e5,e6⟩|⟨e4,e5,⟨e6,e7⟩|⟨e6,e7,e8,e9⟩⟩
    · exact .inl e4
    · exact .inr (.inl ⟨e4,⟨by simpa using e5,by simpa using e5,by simpa using e5⟩,e6⟩)
    · exact .inr (.inr ⟨⟨by simpa using e4,by simpa using e4,by simpa using e4⟩,e5,.inl ⟨e6,hbz.trans e7⟩⟩)
    · exact .inr (.inr ⟨⟨by simpa using e4,by simpa using e4,by simpa using e4⟩,e5,.inr ⟨e6,hbz.trans e7,⟨by simpa using e8,by simpa using e8⟩,⟨by rw[hops];simp;omega,by rw[hops];simp;omega⟩⟩⟩)
 clear hm hbz hops
 rcases F with ⟨rfl,⟨f1,f2⟩|⟨f1,f2,f3,f4⟩⟩|⟨n,id,rfl,hn,hidn,F⟩
 rotate_left 2
 · have b0:((n:Int)<0)=False:=by simp
   have b1:((7:Int)<(n:Int))=False:=by simp;omega
   have b2:(0:Int)≤(n:Int):=by omega
   have b3:(n:Int)<8:=by omega
   have b4:decide ((n:Int)<0)=false:=by simp
   have b5:decide ((7:Int)<(n:Int))=false:=by simp;omega
   have b6:(7<n)=False:=by simp;omega
   have HID:Hid (∀ ks w1,WK B be w0 ks W w1→w1.cell? ⟨B.bw,2+n,none⟩=some (zi (id:Int))):=fun ks w1 q=>by have:=hid.out n hn ks w1 q;rw[hidn] at this;exact this
   clear hid hidn hn
   rcases F with ⟨rfl,rfl⟩|⟨rfl,⟨f1,f2,f3⟩,f4⟩|⟨⟨f1,f2,f3⟩,f4,⟨rfl,rfl⟩|⟨rfl,rfl,⟨f5,f6⟩,⟨f7,f8⟩⟩⟩
   rotate_left 1
   · rw[f4] at N3
     clear f4;go_enter Tryz.func30,Tryz.ntmps30;go_upto_region 2 with (go_at_call 9;refine (N1.out _ _ T0.out).mono ?_;rintro e w1 ⟨rfl,q⟩;have T1:=zH (q.alloc (.cells #[.bool lv,.bool bz,.bool wt,zi a1,zi a2,zi a3,zu a4,zu a5,zi ops] 40));clear q T0)
     generalize w1.alloc _=v1 at*;generalize w1.heap.size=g1 at*;generalize w.heap.size=g0 at*;have T1d:=zH T1.out.drew;have u0:=C.out _ _ T1.out;obtain⟨p0,p1,p2,p3⟩:=HO.out _ _ _ _ T1.out;have HK2:Hid (∀ w',WK B be w0 (.obj g1 (.cells #[.bool lv,.bool bz,.bool wt,zi a1,zi a2,zi a3,zu a4,zu a5,zi ops] 40)::.obj g0 (.cells #[zi k,zi key,zi hi,zi v] 28)::ks) W w'→w'.cell? ⟨B.bw,0,none⟩=some (.pointer (some ⟨be,0,none⟩))∧w'.cell? ⟨g0,0,none⟩=some (zi k)∧w'.cell? ⟨g0,1,none⟩=some (zi key)∧w'.cell? ⟨g0,2,none⟩=some (zi hi)∧w'.cell? ⟨g0,3,none⟩=some (zi v)):=fun w' q=>⟨C.out _ _ q,HO.out _ _ _ _ q⟩
     clear x0 o0 o1 o2 o3
     go_region_held3 (fun w'=>w'.cell? ⟨B.bw,0,none⟩=some (.pointer (some ⟨be,0,none⟩))∧w'.cell? ⟨g0,0,none⟩=some (zi k)∧w'.cell? ⟨g0,1,none⟩=some (zi key)∧w'.cell? ⟨g0,2,none⟩=some (zi hi)∧w'.cell? ⟨g0,3,none⟩=some (zi v))
      (first|exact⟨u0,p0,p1,p2,p3⟩|assumption|go_keep|exact HK2.out _ (by assumption))
      (first|(go_at_call 22;refine (N2.out _ _ T1d.out).mono ?_;rintro e w2 ⟨rfl,q⟩))
     have x0:=C.out _ _ q;obtain⟨y0,y1,y2,y3⟩:=HO.out _ _ _ _ q;obtain⟨q0,q1,q2,q3,q4,q5,q6,q7,q8⟩:=O1.out _ _ _ q;have T2:=zH q;clear q T1 T1d u0 p0 p1 p2 p3 HK2;have u2:=HID.out _ _ T2.out;go_upto_region 19 with (first|(go_at_call 65;refine (N3.out _).mono ?_;rintro e w3 ⟨rfl,hb⟩;have qq:=T2.out.below hb;have x0':=C.out _ _ qq;obtain⟨z0,z1,z2,z3⟩:=HO.out _ _ _ _ qq;obtain⟨r0,r1,r2,r3,r4,r5,r6,r7,r8⟩:=O1.out _ _ _ qq;have T3:=zH qq;clear qq hb))
     have T4:=T3;have T4d:=zH T4.out.drew;have HK3:Hid (∀ w',WK B be w0 (.obj g1 (.cells #[.bool lv,.bool bz,.bool wt,zi a1,zi a2,zi a3,zu a4,zu a5,zi ops] 40)::.obj g0 (.cells #[zi k,zi key,zi hi,zi v] 28)::ks) W w'→w'.cell? ⟨B.bw,0,none⟩=some (.pointer (some ⟨be,0,none⟩))∧w'.cell? ⟨g1,0,none⟩=some (.bool lv)∧w'.cell? ⟨g1,1,none⟩=some (.bool bz)∧w'.cell? ⟨g1,2,none⟩=some (.bool wt)∧w'.cell? ⟨g1,3,none⟩=some (zi a1)∧w'.cell? ⟨g1,4,none⟩=some (zi a2)∧w'.cell? ⟨g1,5,none⟩=some (zi a3)∧w'.cell? ⟨g1,6,none⟩=some (zu a4)∧w'.cell? ⟨g1,7,none⟩=some (zu a5)∧w'.cell? ⟨g1,8,none⟩=some (zi ops)):=fun w' q=>⟨C.out _ _ q,O1.out _ _ _ q⟩
     obtain⟨a0',b0',b1',b2',b3',b4',b5',b6',b7',b8'⟩:=HK3.out _ T4.out
     go_region_held3 (fun w'=>w'.cell? ⟨B.bw,0,none⟩=some (.pointer (some ⟨be,0,none⟩))∧w'.cell? ⟨g1,0,none⟩=some (.bool lv)∧w'.cell? ⟨g1,1,none⟩=some (.bool bz)∧w'.cell? ⟨g1,2,none⟩=some (.bool wt)∧w'.cell? ⟨g1,3,none⟩=some (zi a1)∧w'.cell? ⟨g1,4,none⟩=some (zi a2)∧w'.cell? ⟨g1,5,none⟩=some (zi a3)∧w'.cell? ⟨g1,6,none⟩=some (zu a4)∧w'.cell? ⟨g1,7,none⟩=some (zu a5)∧w'.cell? ⟨g1,8,none⟩=some (zi ops))
      (first|exact⟨a0',b0',b1',b2',b3',b4',b5',b6',b7',b8'⟩|assumption|go_keep|exact HK3.out _ (by assumption))
      (first|(go_at_call 9;refine (N1.out _ _ T4d.out).mono ?_;rintro e w6 ⟨rfl,qq⟩))
     have T6:=zH qq;clear qq;go_wp2_with fail;go_ret;exact⟨rfl,[_,_],T6.out⟩
   · rw[f4] at N3
     clear f4;go_enter Tryz.func30,Tryz.ntmps30;go_upto_region 2 with (go_at_call 9;refine (N1.out _ _ T0.out).mono ?_;rintro e w1 ⟨rfl,q⟩;have T1:=zH (q.alloc (.cells #[.bool lv,.bool true,.bool wt,zi a1,zi a2,zi a3,zu a4,zu a5,zi ops] 40));clear q T0)
     generalize w1.alloc _=v1 at*;generalize w1.heap.size=g1 at*;generalize w.heap.size=g0 at*;have T1d:=zH T1.out.drew;have u0:=C.out _ _ T1.out;obtain⟨p0,p1,p2,p3⟩:=HO.out _ _ _ _ T1.out;have HK2:Hid (∀ w',WK B be w0 (.obj g1 (.cells #[.bool lv,.bool true,.bool wt,zi a1,zi a2,zi a3,zu a4,zu a5,zi ops] 40)::.obj g0 (.cells #[zi k,zi key,zi hi,zi v] 28)::ks) W w'→w'.cell? ⟨B.bw,0,none⟩=some (.pointer (some ⟨be,0,none⟩))∧w'.cell? ⟨g0,0,none⟩=some (zi k)∧w'.cell? ⟨g0,1,none⟩=some (zi key)∧w'.cell? ⟨g0,2,none⟩=some (zi hi)∧w'.cell? ⟨g0,3,none⟩=some (zi v)):=fun w' q=>⟨C.out _ _ q,HO.out _ _ _ _ q⟩
     clear x0 o0 o1 o2 o3
     go_region_held3 (fun w'=>w'.cell? ⟨B.bw,0,none⟩=some (.pointer (some ⟨be,0,none⟩))∧w'.cell? ⟨g0,0,none⟩=some (zi k)∧w'.cell? ⟨g0,1,none⟩=some (zi key)∧w'.cell? ⟨g0,2,none⟩=some (zi hi)∧w'.cell? ⟨g0,3,none⟩=some (zi v))
      (first|exact⟨u0,p0,p1,p2,p3⟩|assumption|go_keep|exact HK2.out _ (by assumption))
      (first|(go_at_call 22;refine (N2.out _ _ T1d.out).mono ?_;rintro e w2 ⟨rfl,q⟩))
     have x0:=C.out _ _ q;obtain⟨y0,y1,y2,y3⟩:=HO.out _ _ _ _ q;obtain⟨q0,q1,q2,q3,q4,q5,q6,q7,q8⟩:=O1.out _ _ _ q;have T2:=zH q;clear q T1 T1d u0 p0 p1 p2 p3 HK2;have u2:=HID.out _ _ T2.out;go_upto_region 19 with (first|(go_at_call 65;refine (N3.out _).mono ?_;rintro e w3 ⟨rfl,hb⟩;have qq:=T2.out.below hb;have x0':=C.out _ _ qq;obtain⟨z0,z1,z2,z3⟩:=HO.out _ _ _ _ qq;obtain⟨r0,r1,r2,r3,r4,r5,r6,r7,r8⟩:=O1.out _ _ _ qq;have T3:=zH qq;clear qq hb))
     have T4:=T3;have T4d:=zH T4.out.drew;have HK3:Hid (∀ w',WK B be w0 (.obj g1 (.cells #[.bool lv,.bool true,.bool wt,zi a1,zi a2,zi a3,zu a4,zu a5,zi ops] 40)::.obj g0 (.cells #[zi k,zi key,zi hi,zi v] 28)::ks) W w'→w'.cell? ⟨B.bw,0,none⟩=some (.pointer (some ⟨be,0,none⟩))∧w'.cell? ⟨g1,0,none⟩=some (.bool lv)∧w'.cell? ⟨g1,1,none⟩=some (.bool true)∧w'.cell? ⟨g1,2,none⟩=some (.bool wt)∧w'.cell? ⟨g1,3,none⟩=some (zi a1)∧w'.cell? ⟨g1,4,none⟩=some (zi a2)∧w'.cell? ⟨g1,5,none⟩=some (zi a3)∧w'.cell? ⟨g1,6,none⟩=some (zu a4)∧w'.cell? ⟨g1,7,none⟩=some (zu a5)∧w'.cell? ⟨g1,8,none⟩=some (zi ops)):=fun w' q=>⟨C.out _ _ q,O1.out _ _ _ q⟩
     obtain⟨a0',b0',b1',b2',b3',b4',b5',b6',b7',b8'⟩:=HK3.out _ T4.out
     go_region_held3 (fun w'=>w'.cell? ⟨B.bw,0,none⟩=some (.pointer (some ⟨be,0,none⟩))∧w'.cell? ⟨g1,0,none⟩=some (.bool lv)∧w'.cell? ⟨g1,1,none⟩=some (.bool true)∧w'.cell? ⟨g1,2,none⟩=some (.bool wt)∧w'.cell? ⟨g1,3,none⟩=some (zi a1)∧w'.cell? ⟨g1,4,none⟩=some (zi a2)∧w'.cell? ⟨g1,5,none⟩=some (zi a3)∧w'.cell? ⟨g1,6,none⟩=some (zu a4)∧w'.cell? ⟨g1,7,none⟩=some (zu a5)∧w'.cell? ⟨g1,8,none⟩=some (zi ops))
      (first|exact⟨a0',b0',b1',b2',b3',b4',b5',b6',b7',b8'⟩|assumption|go_keep|exact HK3.out _ (by assumption))
      (first|(go_at_call 9;refine (N1.out _ _ T4d.out).mono ?_;rintro e w6 ⟨rfl,qq⟩))
     have T6:=zH qq;clear qq;go_wp2_with fail;go_ret;exact⟨rfl,[_,_],T6.out⟩
   · rw[f4] at N3
     clear f4;go_enter Tryz.func30,Tryz.ntmps30;go_upto_region 2 with (go_at_call 9;refine (N1.out _ _ T0.out).mono ?_;rintro e w1 ⟨rfl,q⟩;have T1:=zH (q.alloc (.cells #[.bool lv,.bool false,.bool wt,zi a1,zi a2,zi a3,zu a4,zu a5,zi ops] 40));clear q T0)
     generalize w1.alloc _=v1 at*;generalize w1.heap.size=g1 at*;generalize w.heap.size=g0 at*;have T1d:=zH T1.out.drew;have u0:=C.out _ _ T1.out;obtain⟨p0,p1,p2,p3⟩:=HO.out _ _ _ _ T1.out;have HK2:Hid (∀ w',WK B be w0 (.obj g1 (.cells #[.bool lv,.bool false,.bool wt,zi a1,zi a2,zi a3,zu a4,zu a5,zi ops] 40)::.obj g0 (.cells #[zi k,zi key,zi hi,zi v] 28)::ks) W w'→w'.cell? ⟨B.bw,0,none⟩=some (.pointer (some ⟨be,0,none⟩))∧w'.cell? ⟨g0,0,none⟩=some (zi k)∧w'.cell? ⟨g0,1,none⟩=some (zi key)∧w'.cell? ⟨g0,2,none⟩=some (zi hi)∧w'.cell? ⟨g0,3,none⟩=some (zi v)):=fun w' q=>⟨C.out _ _ q,HO.out _ _ _ _ q⟩
     clear x0 o0 o1 o2 o3
     go_region_held3 (fun w'=>w'.cell? ⟨B.bw,0,none⟩=some (.pointer (some ⟨be,0,none⟩))∧w'.cell? ⟨g0,0,none⟩=some (zi k)∧w'.cell? ⟨g0,1,none⟩=some (zi key)∧w'.cell? ⟨g0,2,none⟩=some (zi hi)∧w'.cell? ⟨g0,3,none⟩=some (zi v))
      (first|exact⟨u0,p0,p1,p2,p3⟩|assumption|go_keep|exact HK2.out _ (by assumption))
      (first|(go_at_call 22;refine (N2.out _ _ T1d.out).mono ?_;rintro e w2 ⟨rfl,q⟩))
     have x0:=C.out _ _ q;obtain⟨y0,y1,y2,y3⟩:=HO.out _ _ _ _ q;obtain⟨q0,q1,q2,q3,q4,q5,q6,q7,q8⟩:=O1.out _ _ _ q;have T2:=zH q;clear q T1 T1d u0 p0 p1 p2 p3 HK2;have u2:=HID.out _ _ T2.out;go_upto_region 19 with (first|(go_at_call 65;refine (N3.out _).mono ?_;rintro e w3 ⟨rfl,hb⟩;have qq:=T2.out.below hb;have x0':=C.out _ _ qq;obtain⟨z0,z1,z2,z3⟩:=HO.out _ _ _ _ qq;obtain⟨r0,r1,r2,r3,r4,r5,r6,r7,r8⟩:=O1.out _ _ _ qq;have T3:=zH qq;clear qq hb))
     have T4:=T3;have T4d:=zH T4.out.drew;have HK3:Hid (∀ w',WK B be w0 (.obj g1 (.cells #[.bool lv,.bool false,.bool wt,zi a1,zi a2,zi a3,zu a4,zu a5,zi ops] 40)::.obj g0 (.cells #[zi k,zi key,zi hi,zi v] 28)::ks) W w'→w'.cell? ⟨B.bw,0,none⟩=some (.pointer (some ⟨be,0,none⟩))∧w'.cell? ⟨g1,0,none⟩=some (.bool lv)∧w'.cell? ⟨g1,1,none⟩=some (.bool false)∧w'.cell? ⟨g1,2,none⟩=some (.bool wt)∧w'.cell? ⟨g1,3,none⟩=some (zi a1)∧w'.cell? ⟨g1,4,none⟩=some (zi a2)∧w'.cell? ⟨g1,5,none⟩=some (zi a3)∧w'.cell? ⟨g1,6,none⟩=some (zu a4)∧w'.cell? ⟨g1,7,none⟩=some (zu a5)∧w'.cell? ⟨g1,8,none⟩=some (zi ops)):=fun w' q=>⟨C.out _ _ q,O1.out _ _ _ q⟩
     obtain⟨a0',b0',b1',b2',b3',b4',b5',b6',b7',b8'⟩:=HK3.out _ T4.out
     go_region_held3 (fun w'=>w'.cell? ⟨B.bw,0,none⟩=some (.pointer (some ⟨be,0,none⟩))∧w'.cell? ⟨g1,0,none⟩=some (.bool lv)∧w'.cell? ⟨g1,1,none⟩=some (.bool false)∧w'.cell? ⟨g1,2,none⟩=some (.bool wt)∧w'.cell? ⟨g1,3,none⟩=some (zi a1)∧w'.cell? ⟨g1,4,none⟩=some (zi a2)∧w'.cell? ⟨g1,5,none⟩=some (zi a3)∧w'.cell? ⟨g1,6,none⟩=some (zu a4)∧w'.cell? ⟨g1,7,none⟩=some (zu a5)∧w'.cell? ⟨g1,8,none⟩=some (zi ops))
      (first|exact⟨a0',b0',b1',b2',b3',b4',b5',b6',b7',b8'⟩|assumption|go_keep|exact HK3.out _ (by assumption))
      (first|(go_at_call 9;refine (N1.out _ _ T4d.out).mono ?_;rintro e w6 ⟨rfl,qq⟩))
     have T6:=zH qq;clear qq;go_wp2_with fail;go_ret;exact⟨rfl,[_,_],T6.out⟩
   · clear N3
     replace HID:Hid (∀ ks w1,WK B be w0 ks W w1→w1.cell? ⟨B.bw,2+n,none⟩=some (zi 0)):=HID;go_enter Tryz.func30,Tryz.ntmps30;go_upto_region 2 with (go_at_call 9;refine (N1.out _ _ T0.out).mono ?_;rintro e w1 ⟨rfl,q⟩;have T1:=zH (q.alloc (.cells #[.bool lv,.bool bz,.bool wt,zi a1,zi a2,zi a3,zu a4,zu a5,zi ops] 40));clear q T0)
     generalize w1.alloc _=v1 at*;generalize w1.heap.size=g1 at*;generalize w.heap.size=g0 at*;have T1d:=zH T1.out.drew;have u0:=C.out _ _ T1.out;obtain⟨p0,p1,p2,p3⟩:=HO.out _ _ _ _ T1.out;have HK2:Hid (∀ w',WK B be w0 (.obj g1 (.cells #[.bool lv,.bool bz,.bool wt,zi a1,zi a2,zi a3,zu a4,zu a5,zi ops] 40)::.obj g0 (.cells #[zi k,zi key,zi hi,zi v] 28)::ks) W w'→w'.cell? ⟨B.bw,0,none⟩=some (.pointer (some ⟨be,0,none⟩))∧w'.cell? ⟨g0,0,none⟩=some (zi k)∧w'.cell? ⟨g0,1,none⟩=some (zi key)∧w'.cell? ⟨g0,2,none⟩=some (zi hi)∧w'.cell? ⟨g0,3,none⟩=some (zi v)):=fun w' q=>⟨C.out _ _ q,HO.out _ _ _ _ q⟩
     clear x0 o0 o1 o2 o3
     go_region_held3 (fun w'=>w'.cell? ⟨B.bw,0,none⟩=some (.pointer (some ⟨be,0,none⟩))∧w'.cell? ⟨g0,0,none⟩=some (zi k)∧w'.cell? ⟨g0,1,none⟩=some (zi key)∧w'.cell? ⟨g0,2,none⟩=some (zi hi)∧w'.cell? ⟨g0,3,none⟩=some (zi v))
      (first|exact⟨u0,p0,p1,p2,p3⟩|assumption|go_keep|exact HK2.out _ (by assumption))
      (first|(go_at_call 22;refine (N2.out _ _ T1d.out).mono ?_;rintro e w2 ⟨rfl,q⟩))
     have x0:=C.out _ _ q;obtain⟨y0,y1,y2,y3⟩:=HO.out _ _ _ _ q;obtain⟨q0,q1,q2,q3,q4,q5,q6,q7,q8⟩:=O1.out _ _ _ q;have T2:=zH q;clear q T1 T1d u0 p0 p1 p2 p3 HK2;have u2:=HID.out _ _ T2.out;go_upto_region 19 with (first|(go_at_call 65;refine (N3.out _).mono ?_;rintro e w3 ⟨rfl,hb⟩;have qq:=T2.out.below hb;have x0':=C.out _ _ qq;obtain⟨z0,z1,z2,z3⟩:=HO.out _ _ _ _ qq;obtain⟨r0,r1,r2,r3,r4,r5,r6,r7,r8⟩:=O1.out _ _ _ qq;have T3:=zH qq;clear qq hb))
     have T4:=T2;have T4d:=zH T4.out.drew;have HK3:Hid (∀ w',WK B be w0 (.obj g1 (.cells #[.bool lv,.bool bz,.bool wt,zi a1,zi a2,zi a3,zu a4,zu a5,zi ops] 40)::.obj g0 (.cells #[zi k,zi key,zi hi,zi v] 28)::ks) W w'→w'.cell? ⟨B.bw,0,none⟩=some (.pointer (some ⟨be,0,none⟩))∧w'.cell? ⟨g1,0,none⟩=some (.bool lv)∧w'.cell? ⟨g1,1,none⟩=some (.bool bz)∧w'.cell? ⟨g1,2,none⟩=some (.bool wt)∧w'.cell? ⟨g1,3,none⟩=some (zi a1)∧w'.cell? ⟨g1,4,none⟩=some (zi a2)∧w'.cell? ⟨g1,5,none⟩=some (zi a3)∧w'.cell? ⟨g1,6,none⟩=some (zu a4)∧w'.cell? ⟨g1,7,none⟩=some (zu a5)∧w'.cell? ⟨g1,8,none⟩=some (zi ops)):=fun w' q=>⟨C.out _ _ q,O1.out _ _ _ q⟩
     obtain⟨a0',b0',b1',b2',b3',b4',b5',b6',b7',b8'⟩:=HK3.out _ T4.out
     go_region_held3 (fun w'=>w'.cell? ⟨B.bw,0,none⟩=some (.pointer (some ⟨be,0,none⟩))∧w'.cell? ⟨g1,0,none⟩=some (.bool lv)∧w'.cell? ⟨g1,1,none⟩=some (.bool bz)∧w'.cell? ⟨g1,2,none⟩=some (.bool wt)∧w'.cell? ⟨g1,3,none⟩=some (zi a1)∧w'.cell? ⟨g1,4,none⟩=some (zi a2)∧w'.cell? ⟨g1,5,none⟩=some (zi a3)∧w'.cell? ⟨g1,6,none⟩=some (zu a4)∧w'.cell? ⟨g1,7,none⟩=some (zu a5)∧w'.cell? ⟨g1,8,none⟩=some (zi ops))
      (first|exact⟨a0',b0',b1',b2',b3',b4',b5',b6',b7',b8'⟩|assumption|go_keep|exact HK3.out _ (by assumption))
      (first|(go_at_call 9;refine (N1.out _ _ T4d.out).mono ?_;rintro e w6 ⟨rfl,qq⟩))
     have T6:=zH qq;clear qq;go_wp2_with fail;go_ret;exact⟨rfl,[_,_],T6.out⟩
 · clear N3 hid
   go_enter Tryz.func30,Tryz.ntmps30;go_upto_region 2 with (go_at_call 9;refine (N1.out _ _ T0.out).mono ?_;rintro e w1 ⟨rfl,q⟩;have T1:=zH (q.alloc (.cells #[.bool lv,.bool bz,.bool wt,zi a1,zi a2,zi a3,zu a4,zu a5,zi ops] 40));clear q T0)
   generalize w1.alloc _=v1 at*;generalize w1.heap.size=g1 at*;generalize w.heap.size=g0 at*;have T1d:=zH T1.out.drew;have u0:=C.out _ _ T1.out;obtain⟨p0,p1,p2,p3⟩:=HO.out _ _ _ _ T1.out;have HK2:Hid (∀ w',WK B be w0 (.obj g1 (.cells #[.bool lv,.bool bz,.bool wt,zi a1,zi a2,zi a3,zu a4,zu a5,zi ops] 40)::.obj g0 (.cells #[zi k,zi key,zi hi,zi v] 28)::ks) W w'→w'.cell? ⟨B.bw,0,none⟩=some (.pointer (some ⟨be,0,none⟩))∧w'.cell? ⟨g0,0,none⟩=some (zi k)∧w'.cell? ⟨g0,1,none⟩=some (zi key)∧w'.cell? ⟨g0,2,none⟩=some (zi hi)∧w'.cell? ⟨g0,3,none⟩=some (zi v)):=fun w' q=>⟨C.out _ _ q,HO.out _ _ _ _ q⟩
   clear x0 o0 o1 o2 o3
   go_region_held3 (fun w'=>w'.cell? ⟨B.bw,0,none⟩=some (.pointer (some ⟨be,0,none⟩))∧w'.cell? ⟨g0,0,none⟩=some (zi k)∧w'.cell? ⟨g0,1,none⟩=some (zi key)∧w'.cell? ⟨g0,2,none⟩=some (zi hi)∧w'.cell? ⟨g0,3,none⟩=some (zi v))
    (first|exact⟨u0,p0,p1,p2,p3⟩|assumption|go_keep|exact HK2.out _ (by assumption))
    (first|(go_at_call 22;refine (N2.out _ _ T1d.out).mono ?_;rintro e w2 ⟨rfl,q⟩))
   have x0:=C.out _ _ q;obtain⟨y0,y1,y2,y3⟩:=HO.out _ _ _ _ q;obtain⟨q0,q1,q2,q3,q4,q5,q6,q7,q8⟩:=O1.out _ _ _ q;have T2:=zH q;clear q T1 T1d u0 p0 p1 p2 p3 HK2;go_upto_region 19 with (first|(go_at_call 65;refine (N3.out _).mono ?_;rintro e w3 ⟨rfl,hb⟩;have qq:=T2.out.below hb;have x0':=C.out _ _ qq;obtain⟨z0,z1,z2,z3⟩:=HO.out _ _ _ _ qq;obtain⟨r0,r1,r2,r3,r4,r5,r6,r7,r8⟩:=O1.out _ _ _ qq;have T3:=zH qq;clear qq hb))
   have T4:=T2;have T4d:=zH T4.out.drew;have HK3:Hid (∀ w',WK B be w0 (.obj g1 (.cells #[.bool lv,.bool bz,.bool wt,zi a1,zi a2,zi a3,zu a4,zu a5,zi ops] 40)::.obj g0 (.cells #[zi k,zi key,zi hi,zi v] 28)::ks) W w'→w'.cell? ⟨B.bw,0,none⟩=some (.pointer (some ⟨be,0,none⟩))∧w'.cell? ⟨g1,0,none⟩=some (.bool lv)∧w'.cell? ⟨g1,1,none⟩=some (.bool bz)∧w'.cell? ⟨g1,2,none⟩=some (.bool wt)∧w'.cell? ⟨g1,3,none⟩=some (zi a1)∧w'.cell? ⟨g1,4,none⟩=some (zi a2)∧w'.cell? ⟨g1,5,none⟩=some (zi a3)∧w'.cell? ⟨g1,6,none⟩=some (zu a4)∧w'.cell? ⟨g1,7,none⟩=some (zu a5)∧w'.cell? ⟨g1,8,none⟩=some (zi ops)):=fun w' q=>⟨C.out _ _ q,O1.out _ _ _ q⟩
   obtain⟨a0',b0',b1',b2',b3',b4',b5',b6',b7',b8'⟩:=HK3.out _ T4.out
   go_region_held3 (fun w'=>w'.cell? ⟨B.bw,0,none⟩=some (.pointer (some ⟨be,0,none⟩))∧w'.cell? ⟨g1,0,none⟩=some (.bool lv)∧w'.cell? ⟨g1,1,none⟩=some (.bool bz)∧w'.cell? ⟨g1,2,none⟩=some (.bool wt)∧w'.cell? ⟨g1,3,none⟩=some (zi a1)∧w'.cell? ⟨g1,4,none⟩=some (zi a2)∧w'.cell? ⟨g1,5,none⟩=some (zi a3)∧w'.cell? ⟨g1,6,none⟩=some (zu a4)∧w'.cell? ⟨g1,7,none⟩=some (zu a5)∧w'.cell? ⟨g1,8,none⟩=some (zi ops))
    (first|exact⟨a0',b0',b1',b2',b3',b4',b5',b6',b7',b8'⟩|assumption|go_keep|exact HK3.out _ (by assumption))
    (first|(go_at_call 9;refine (N1.out _ _ T4d.out).mono ?_;rintro e w6 ⟨rfl,qq⟩))
   have T6:=zH qq;clear qq;go_wp2_with fail;go_ret;exact⟨rfl,[_,_],T6.out⟩
 · clear N3 hid
   go_enter Tryz.func30,Tryz.ntmps30;go_upto_region 2 with (go_at_call 9;refine (N1.out _ _ T0.out).mono ?_;rintro e w1 ⟨rfl,q⟩;have T1:=zH (q.alloc (.cells #[.bool lv,.bool bz,.bool wt,zi a1,zi a2,zi a3,zu a4,zu a5,zi ops] 40));clear q T0)
   generalize w1.alloc _=v1 at*;generalize w1.heap.size=g1 at*;generalize w.heap.size=g0 at*;have T1d:=zH T1.out.drew;have u0:=C.out _ _ T1.out;obtain⟨p0,p1,p2,p3⟩:=HO.out _ _ _ _ T1.out;have HK2:Hid (∀ w',WK B be w0 (.obj g1 (.cells #[.bool lv,.bool bz,.bool wt,zi a1,zi a2,zi a3,zu a4,zu a5,zi ops] 40)::.obj g0 (.cells #[zi k,zi key,zi hi,zi v] 28)::ks) W w'→w'.cell? ⟨B.bw,0,none⟩=some (.pointer (some ⟨be,0,none⟩))∧w'.cell? ⟨g0,0,none⟩=some (zi k)∧w'.cell? ⟨g0,1,none⟩=some (zi key)∧w'.cell? ⟨g0,2,none⟩=some (zi hi)∧w'.cell? ⟨g0,3,none⟩=some (zi v)):=fun w' q=>⟨C.out _ _ q,HO.out _ _ _ _ q⟩
   clear x0 o0 o1 o2 o3
   go_region_held3 (fun w'=>w'.cell? ⟨B.bw,0,none⟩=some (.pointer (some ⟨be,0,none⟩))∧w'.cell? ⟨g0,0,none⟩=some (zi k)∧w'.cell? ⟨g0,1,none⟩=some (zi key)∧w'.cell? ⟨g0,2,none⟩=some (zi hi)∧w'.cell? ⟨g0,3,none⟩=some (zi v))
    (first|exact⟨u0,p0,p1,p2,p3⟩|assumption|go_keep|exact HK2.out _ (by assumption))
    (first|(go_at_call 22;refine (N2.out _ _ T1d.out).mono ?_;rintro e w2 ⟨rfl,q⟩))
   have x0:=C.out _ _ q;obtain⟨y0,y1,y2,y3⟩:=HO.out _ _ _ _ q;obtain⟨q0,q1,q2,q3,q4,q5,q6,q7,q8⟩:=O1.out _ _ _ q;have T2:=zH q;clear q T1 T1d u0 p0 p1 p2 p3 HK2;go_upto_region 19 with (first|(go_at_call 65;refine (N3.out _).mono ?_;rintro e w3 ⟨rfl,hb⟩;have qq:=T2.out.below hb;have x0':=C.out _ _ qq;obtain⟨z0,z1,z2,z3⟩:=HO.out _ _ _ _ qq;obtain⟨r0,r1,r2,r3,r4,r5,r6,r7,r8⟩:=O1.out _ _ _ qq;have T3:=zH qq;clear qq hb))
   have T4:=T2;have T4d:=zH T4.out.drew;have HK3:Hid (∀ w',WK B be w0 (.obj g1 (.cells #[.bool lv,.bool bz,.bool wt,zi a1,zi a2,zi a3,zu a4,zu a5,zi ops] 40)::.obj g0 (.cells #[zi k,zi key,zi hi,zi v] 28)::ks) W w'→w'.cell? ⟨B.bw,0,none⟩=some (.pointer (some ⟨be,0,none⟩))∧w'.cell? ⟨g1,0,none⟩=some (.bool lv)∧w'.cell? ⟨g1,1,none⟩=some (.bool bz)∧w'.cell? ⟨g1,2,none⟩=some (.bool wt)∧w'.cell? ⟨g1,3,none⟩=some (zi a1)∧w'.cell? ⟨g1,4,none⟩=some (zi a2)∧w'.cell? ⟨g1,5,none⟩=some (zi a3)∧w'.cell? ⟨g1,6,none⟩=some (zu a4)∧w'.cell? ⟨g1,7,none⟩=some (zu a5)∧w'.cell? ⟨g1,8,none⟩=some (zi ops)):=fun w' q=>⟨C.out _ _ q,O1.out _ _ _ q⟩
   obtain⟨a0',b0',b1',b2',b3',b4',b5',b6',b7',b8'⟩:=HK3.out _ T4.out
   go_region_held3 (fun w'=>w'.cell? ⟨B.bw,0,none⟩=some (.pointer (some ⟨be,0,none⟩))∧w'.cell? ⟨g1,0,none⟩=some (.bool lv)∧w'.cell? ⟨g1,1,none⟩=some (.bool bz)∧w'.cell? ⟨g1,2,none⟩=some (.bool wt)∧w'.cell? ⟨g1,3,none⟩=some (zi a1)∧w'.cell? ⟨g1,4,none⟩=some (zi a2)∧w'.cell? ⟨g1,5,none⟩=some (zi a3)∧w'.cell? ⟨g1,6,none⟩=some (zu a4)∧w'.cell? ⟨g1,7,none⟩=some (zu a5)∧w'.cell? ⟨g1,8,none⟩=some (zi ops))
    (first|exact⟨a0',b0',b1',b2',b3',b4',b5',b6',b7',b8'⟩|assumption|go_keep|exact HK3.out _ (by assumption))
    (first|(go_at_call 9;refine (N1.out _ _ T4d.out).mono ?_;rintro e w6 ⟨rfl,qq⟩))
   have T6:=zH qq;clear qq;go_wp2_with fail;go_ret;exact⟨rfl,[_,_],T6.out⟩
theorem wstep_no {B:WBook} {be:Nat} {w0 w:World} {ks:List Kept} {W:Wd} (h:WK B be w0 ks W w) (s er:Int) (st:Status)
 (HS:∀ ks w1,WK B be w0 ks W w1→Calls Tryz.prog 9 #[.pointer (some ⟨be,0,none⟩),zi s] w1 fun e w'=>e=.returned (.agg (statusCs st))∧WK B be w0 ks W w')
 (HT:∀ ks w1,WK B be w0 ks W w1→Calls Tryz.prog 23 #[.pointer (some ⟨be,0,none⟩),zi s] w1 fun e w'=>e=.returned (.tuple #[.agg #[zi 0,zi 0,zi 0,.slice none 0 0,zi 0,zi 0],zi er])∧WK B be w0 ks W w')
 (hm:er=1∧(s<0∨7<s)∨er=9∧(∃ n:Nat,s=(n:Int)∧n<8)∧st.busy=false):
 Calls Tryz.prog 31 #[.pointer (some ⟨B.bw,0,none⟩),zi s] w fun e w'=>e=.returned (.bool true)∧∃ ks',WK B be w0 (ks'++ks) W w':=by
 obtain⟨lv,bz,wt,a1,a2,a3,a4,a5,ops,hst,hbz,hops⟩:=statusCs_form st;rw[hst] at HS;rw[←hbz] at hm;have N1:=zH HS;have N3:=zH HT;obtain⟨lk,hlk⟩:∃ lk,lk=W.σ.looks:=⟨_,rfl⟩
 have N2:Hid (∀ ks w1,WK B be w0 ks W w1→Calls Tryz.prog 7 #[.pointer (some ⟨be,0,none⟩)] w1 fun e w'=>e=.returned (zi (lk:Int))∧w1=w'):=fun ks w1 q=>by
  have hh:=looks_wk q;rw[←hlk] at hh;exact hh
 have C:Hid (∀ ks w1,WK B be w0 ks W w1→w1.cell? ⟨B.bw,0,none⟩=some (.pointer (some ⟨be,0,none⟩))):=fun ks w1 q=>(q.wcell 0 rfl).1
 have x0:=C.out _ _ h;have T0:=zH h;clear h HS HT hst hbz hops hlk;have F:(er=1∧(((s<0)=True∧decide (s<0)=true)∨((s<0)=False∧decide (s<0)=false∧(7<s)=True∧decide (7<s)=true)))∨(∃ n:Nat,s=(n:Int)∧n<8∧er=9∧bz=false):=by
  rcases hm with ⟨e1,e2⟩|⟨e1,⟨n,e2,e3⟩,e4⟩
  · refine .inl ⟨e1,?_⟩
    by_cases h0:s<0
    · exact .inl ⟨by simpa using h0,by simpa using h0⟩
    · have h7:7<s:=e2.resolve_left h0
      exact .inr ⟨by simpa using h0,by simpa using h0,by simpa using h7,by simpa using h7⟩
  · exact .inr ⟨n,e2,e3,e1,e4⟩
 clear hm
 rcases F with ⟨rfl,⟨f1,f2⟩|⟨f1,f2,f3,f4⟩⟩|⟨n,rfl,hn,rfl,rfl⟩
 rotate_left 2
 · have b0:((n:Int)<0)=False:=by simp
   have b1:((7:Int)<(n:Int))=False:=by simp;omega
   have b4:decide ((n:Int)<0)=false:=by simp
   have b5:decide ((7:Int)<(n:Int))=false:=by simp;omega
   have b6:(7<n)=False:=by simp;omega
   clear hn;go_enter Tryz.func31,Tryz.ntmps31;go_wp2_with (first|(go_at_call 9;refine (N1.out _ _ T0.out).mono ?_;clear T0;rintro e w1 ⟨rfl,q⟩;have qa:=q.alloc (.cells #[.bool lv,.bool false,.bool wt,zi a1,zi a2,zi a3,zu a4,zu a5,zi ops] 40);have x1:=C.out _ _ qa;have y1:=obj_cell (qa.obj List.mem_cons_self) 1 rfl;have T1:=zH qa;clear q qa)|(go_at_call 7;refine (N2.out _ _ T1.out).mono ?_;rintro e w' ⟨rfl,rfl⟩;have T2:=T1;clear T1)|(go_at_call 23;refine (N3.out _ _ T2.out).mono ?_;clear T2;rintro e w3 ⟨rfl,q⟩;have qa:=q.alloc (.cells #[zi 0,zi 0,zi 0,.slice none 0 0,zi 0,zi 0] 65);have x3:=C.out _ _ qa;have y3:=obj_cell (qa.tail.obj List.mem_cons_self) 1 rfl;have z3:=obj_cell (qa.obj List.mem_cons_self) 0 rfl;have T3:=zH qa;clear q qa)|(go_at_call 7;refine (N2.out _ _ T3.out).mono ?_;rintro e w' ⟨rfl,rfl⟩));go_ret;exact⟨rfl,[_,_],T3.out⟩
 all_goals (
  go_enter Tryz.func31,Tryz.ntmps31
  go_wp2_with (first|(go_at_call 9;refine (N1.out _ _ T0.out).mono ?_;clear T0;rintro e w1 ⟨rfl,q⟩;have qa:=q.alloc (.cells #[.bool lv,.bool bz,.bool wt,zi a1,zi a2,zi a3,zu a4,zu a5,zi ops] 40);have x1:=C.out _ _ qa;have y1:=obj_cell (qa.obj List.mem_cons_self) 1 rfl;have T1:=zH qa;clear q qa)|(go_at_call 7;refine (N2.out _ _ T1.out).mono ?_;rintro e w' ⟨rfl,rfl⟩;have T2:=T1;clear T1)|(go_at_call 23;refine (N3.out _ _ T2.out).mono ?_;clear T2;rintro e w3 ⟨rfl,q⟩;have qa:=q.alloc (.cells #[zi 0,zi 0,zi 0,.slice none 0 0,zi 0,zi 0] 65);have x3:=C.out _ _ qa;have y3:=obj_cell (qa.tail.obj List.mem_cons_self) 1 rfl;have z3:=obj_cell (qa.obj List.mem_cons_self) 0 rfl;have T3:=zH qa;clear q qa)|(go_at_call 7;refine (N2.out _ _ T3.out).mono ?_;rintro e w' ⟨rfl,rfl⟩))
  go_ret
  exact⟨rfl,[_,_],T3.out⟩
 )
end Go.Proofs.YtmgghljjjpcgkaaGreat.Em
namespace Go.Proofs.YtmgghljjjpcgkaaGreat.Em
open Go.ChangeShapes Go.WideShapes Go.ChangeAt Go.RowKit En
open Cw (WF WC LK LZ getD_setO)
set_option linter.unusedVariables false
set_option linter.unusedSimpArgs false
set_option maxRecDepth 100000
set_option maxHeartbeats 1600000
def tid (t:Option Txn):Nat:=match t with|some t=>t.id|none=>0
structure WW (N L n:Nat) (W:Wd):Prop where
 wf:WF N L n W.σ
 wc:WC N W.σ
 ct:W.σ.count≤8*n
 lk:W.σ.looks≤8*n
 sq:W.σ.seq≤n
 dl:W.deals.length=W.σ.made
 i8:W.ids.length=8
 ids:∀ s,s<8→W.ids.getD s 0=tid (W.σ.txns.getD s none)
 op:∀ (k:Nat) (p:Dl),W.deals[k]? =some p→p.ops.length≤n
 go:W.gone.length≤n
theorem WW.mono {N L n n':Nat} {W:Wd} (h:WW N L n W) (hn:n≤n'):WW N L n' W:=⟨h.wf.mono hn,h.wc,by have:=h.ct;omega,by have:=h.lk;omega,by have:=h.sq;omega,h.dl,h.i8,h.ids,fun k p hk=>Nat.le_trans (h.op k p hk) hn,Nat.le_trans h.go hn⟩
def WDone (bw be:Nat) (w0:World) (ks:List Kept) (W':Wd):Ending→World→Prop:=fun e w'=>e=.returned (.bool true)∧∃ ks' B',B'.bw=bw∧WK B' be w0 (ks'++ks) W' w'
theorem getD_setN (l:List Nat) (i v q:Nat) (h:i<l.length):(l.set i v).getD q 0=if q=i then v else l.getD q 0:=by
 simp only[List.getD_eq_getElem?_getD,List.getElem?_set]
 by_cases e:i=q
 · subst e;simp[h]
 · have e2:¬ q=i:=fun h=>e h.symm
   simp[e,e2]
theorem status_busy {σ:St} {s:Nat} {t:Txn} (ht:σ.txns.getD s none=some t):(σ.status s).busy=(σ.calls.getD s none).isSome∧(σ.status s).live=true∧(σ.status s).ops=t.ops:=by
 unfold St.status;rw[ht];exact⟨rfl,rfl,rfl⟩
theorem status_nil {σ:St} {s:Nat} (ht:σ.txns.getD s none=none):σ.status s={}:=by unfold St.status;rw[ht]
section
variable {N L n:Nat} {W:Wd}
theorem WW.begin_ (h:WW N L n W) (hn:n<300000) (hmd:W.σ.made<2000) (s level:Int):∃ W',WW N L (n+3) W'∧W'.σ.made≤W.σ.made+1∧
 ∀ B be w0 ks w,WK B be w0 ks W w→Calls Tryz.prog 29 #[.pointer (some ⟨B.bw,0,none⟩),zi s,zi level] w (WDone B.bw be w0 ks W'):=by
 have hct:=h.ct;have hw0:=(h.wf.sh.wd 0).u
 by_cases hok:sI s=true∧lI level=true
 · obtain⟨m,rfl,hm⟩:=sI_of hok.1
   obtain⟨l,rfl,hl1,hl3⟩:=lI_of hok.2
   cases ht:W.σ.txns.getD m none with
   |some t=>
    refine⟨W,h.mono (by omega),by omega,fun B be w0 ks w q=>?_⟩;refine (wbegin_no q (m:Int) (l:Int) 9 W.σ (by omega) rfl hw0 hw0 (fun ks w1 q=>?_)).mono (fun e w' x=>⟨x.1,[],B,rfl,x.2⟩);obtain⟨A,rfl,lv,r,g,tk⟩:=q.ex;refine (begin_taken lv m hm l hl1 hl3 t ht).mono ?_;rintro e w' ⟨A',rfl,hL',g',e'⟩;exact⟨rfl,WK.of lv r g tk hL' g' e'⟩
   |none=>
    by_cases hlim:timeOf (W.σ.word 0)<W.σ.limit
    · obtain⟨σ1,hb,hwf,hc1,hc2,hlk,hsq,hmd1,hcl,htx,hoth,hwd⟩:=h.wf.begin_ hm ht hl1 hl3 hmd hlim (by omega) (by omega)
      have hi0:W.ids.getD m 0=0:=by rw[h.ids m hm,ht];rfl
      have hckd:=((h.wf.sh.wd 0).ck rfl).1;have hl1':=h.wf.sh.l1;have hnow:σ1.now=W.σ.now+1:=by unfold St.now;rw[hwd];unfold timeOf clockW;omega
      have hwb:wBeginOk W m l=some {W with σ:=σ1,ids:=W.ids.set m (W.σ.made+1),deals:=W.deals++[⟨W.σ.made+1,l,1,W.σ.now+1,0,[]⟩]}:=by
       unfold wBeginOk;rw[hb];simp only;rw[if_pos ⟨by rw[h.dl],hi0,hnow,hw0,(hwf.sh.wd 0).u,by rw[h.dl];omega⟩]
      refine⟨_,⟨hwf.mono (by omega),h.wc.begin_ h.wf hm hb,?_,?_,?_,?_,?_,?_,?_,?_⟩,by show σ1.made≤_;omega,fun B be w0 ks w q=>(wbegin_any q hm hwb).mono (fun e w' x=>⟨x.1,[],x.2⟩)⟩
      · show σ1.count≤_;omega
      · show σ1.looks≤_;have:=h.lk;omega
      · show σ1.seq≤_;have:=h.sq;omega
      · show (W.deals++[_]).length=σ1.made
        rw[List.length_append,h.dl,hmd1];rfl
      · show (W.ids.set m _).length=8
        rw[List.length_set];exact h.i8
      · intro q hq
        show (W.ids.set m _).getD q 0=tid (σ1.txns.getD q none);rw[getD_setN _ _ _ _ (by rw[h.i8];exact hm)]
        by_cases e:q=m
        · rw[if_pos e,e,htx];rfl
        · rw[if_neg e,hoth q e,h.ids q hq]
      · intro k p hk
        change (W.deals++[_])[k]? =some p at hk
        by_cases hkl:k<W.deals.length
        · rw[List.getElem?_append_left hkl] at hk
          exact Nat.le_trans (h.op k p hk) (by omega)
        · rw[List.getElem?_append_right (by omega)] at hk
          by_cases hk0:k - W.deals.length=0
          · rw[hk0] at hk
            obtain rfl:=Option.some.inj hk;exact Nat.zero_le _
          · rw[List.getElem?_eq_none (by simp;omega)] at hk;cases hk
      · exact Nat.le_trans h.go (by omega)
    · refine⟨{W with σ:=W.σ.tick},⟨h.wf.tick.mono (by omega),h.wc.tick h.wf,?_,?_,?_,h.dl,h.i8,h.ids,fun k p hk=>Nat.le_trans (h.op k p hk) (by omega),Nat.le_trans h.go (by omega)⟩,Nat.le_succ _,fun B be w0 ks w q=>?_⟩
      · show W.σ.count+1≤_;omega
      · show W.σ.looks≤_;have:=h.lk;omega
      · show W.σ.seq≤_;have:=h.sq;omega
      refine (wbegin_no q (m:Int) (l:Int) 16 W.σ.tick (by omega) rfl hw0 hw0 (fun ks w1 q=>?_)).mono (fun e w' x=>⟨x.1,[],B,rfl,x.2⟩);obtain⟨A,rfl,lv,r,g,tk⟩:=q.ex;refine (begin_over lv m hm l hl1 hl3 ht hmd hw0 (by omega) (by omega)).mono ?_;rintro e w' ⟨A',rfl,hL',g',e'⟩;exact⟨rfl,WK.of lv r g tk hL' g' e'⟩
 · have hb:sI s=false∨lI level=false:=by
    cases h1:sI s with
    |false=>exact .inl rfl
    |true=>
     cases h2:lI level with
     |false=>exact .inr rfl
     |true=>exact absurd ⟨h1,h2⟩ hok
   refine⟨W,h.mono (by omega),by omega,fun B be w0 ks w q=>?_⟩;refine (wbegin_no q s level 1 W.σ (by omega) rfl hw0 hw0 (fun ks w1 q=>(begin_arg be w1 s level hb).mono ?_)).mono (fun e w' x=>⟨x.1,[],B,rfl,x.2⟩);rintro e w' ⟨rfl,rfl⟩;exact⟨rfl,q⟩
theorem sI_bad {s:Int} (h:sI s=false):s<0∨7<s:=by
 unfold sI at h;simp at h;omega
theorem WW.issue (h:WW N L n W) (hn:n<300000) (s k key hi v:Int):∃ W',WW N L (n+3) W'∧W'.σ.made=W.σ.made∧
 ∀ B be w0 ks w,WK B be w0 ks W w→Calls Tryz.prog 30 #[.pointer (some ⟨B.bw,0,none⟩),zi s,.agg #[zi k,zi key,zi hi,zi v]] w (WDone B.bw be w0 ks W'):=by
 have hsame:WW N L (n+3) W:=h.mono (by omega)
 cases hs:sI s with
 |false=>
  refine⟨W,hsame,rfl,fun B be w0 ks w q=>?_⟩;refine (wissue_no q s k key hi v 1 {} (fun ks w1 q=>(status_arg be w1 s hs).mono (fun e w' x=>⟨x.1,q.below x.2⟩)) (fun ks w1 q=>(issue_arg be w1 s k key hi v hs).mono (fun e w' x=>⟨x.1,q.below x.2⟩)) (.inl ⟨rfl,sI_bad hs⟩)).mono (fun e w' x=>?_);obtain⟨x1,ks',x2⟩:=x;exact⟨x1,ks',B,rfl,x2⟩
 |true=>
  obtain⟨m,rfl,hm⟩:=sI_of hs;have hid:=h.ids m hm;have refuse:∀ er:Int,(∀ A w,Live A W.σ w→Calls Tryz.prog 22 #[.pointer (some ⟨A.be,0,none⟩),zi (m:Int),.agg #[zi k,zi key,zi hi,zi v]] w fun e w'=>e=.returned (zi er)∧Below w.heap.size w w')→
   (er=9∧W.ids.getD m 0=0∨er=9∧W.ids.getD m 0≠0∧opI k key hi v=false∨W.ids.getD m 0≠0∧opI k key hi v=true∧(er=9∧(W.σ.status m).busy=true∨er=65∧(W.σ.status m).busy=false∧k<6∧12≤(W.σ.status m).ops))→
   ∃ W',WW N L (n+3) W'∧W'.σ.made=W.σ.made∧∀ B be w0 ks w,WK B be w0 ks W w→Calls Tryz.prog 30 #[.pointer (some ⟨B.bw,0,none⟩),zi (m:Int),.agg #[zi k,zi key,zi hi,zi v]] w (WDone B.bw be w0 ks W'):=by
   intro er hI hm2;refine⟨W,hsame,rfl,fun B be w0 ks w q=>?_⟩;refine (wissue_no q (m:Int) k key hi v er (W.σ.status m) (fun ks w1 q=>status_wk q m hm) (fun ks w1 q=>?_) (.inr ⟨m,_,rfl,hm,rfl,hm2⟩)).mono (fun e w' x=>?_)
   · obtain⟨A,rfl,lv,r,g,tk⟩:=q.ex
     exact (hI A w1 lv).mono (fun e w' x=>⟨x.1,WK.below ⟨A,rfl,lv,r,g,tk⟩ x.2⟩)
   · obtain⟨x1,ks',x2⟩:=x
     exact⟨x1,ks',B,rfl,x2⟩
  cases ht:W.σ.txns.getD m none with
  |none=>exact refuse 9 (fun A w lv=>issue_no lv m hm k key hi v (.inl ht)) (.inl ⟨rfl,by rw[hid,ht];rfl⟩)
  |some t=>
   have hT:=h.wf.tx m t ht;have hid1:W.ids.getD m 0≠0:=by rw[hid,ht];show t.id≠0;have:=hT.i1;omega
   obtain⟨sb,sl,so⟩:=status_busy ht
   cases ho:opI k key hi v with
   |false=>exact refuse 9 (fun A w lv=>issue_no lv m hm k key hi v (.inr (.inl ho))) (.inr (.inl ⟨rfl,hid1,ho⟩))
   |true=>
    cases hc:W.σ.calls.getD m none with
    |some c=>exact refuse 9 (fun A w lv=>issue_no lv m hm k key hi v (.inr (.inr (by rw[hc];rfl)))) (.inr (.inr ⟨hid1,ho,.inl ⟨rfl,by rw[sb,hc];rfl⟩⟩))
    |none=>
     obtain⟨o,rfl,rfl,rfl,rfl,hoo⟩:=opI_of ho;have hk17:=Cw.opOk_key hoo
     by_cases hmany:12≤t.ops∧opEnds o=false
     · refine refuse 65 (fun A w lv=>issue_many lv m hm t ht o hoo hmany.2 hc hmany.1) (.inr (.inr ⟨hid1,ho,.inr ⟨rfl,by rw[sb,hc];rfl,?_,by rw[so];exact hmany.1⟩⟩))
       have he:=hmany.2;unfold opEnds at he;simp at he
       (try omega)
     · have hop:t.ops<12∨opEnds o=true:=by
        by_cases h12:t.ops<12
        · exact .inl h12
        · right
          cases e:opEnds o with
          |true=>rfl
          |false=>exact absurd ⟨by omega,e⟩ hmany
       have hsq:=h.sq;obtain⟨σ1,hi,hwf,hct,hlk,hsq1,hmd,⟨c,hcc,hco⟩,htx,hoth,hidq⟩:=h.wf.issue hm ht hc hoo hop (by omega) (by omega);have hbz:(σ1.status m).busy=true:=by
        obtain⟨t2,ht2⟩:=Option.isSome_iff_exists.1 htx;rw[(status_busy ht2).1,hcc];rfl
       have hopk:(W.σ.status m).ops<12∨6≤o.kind:=by
        rw[so]
        rcases hop with hop|hop
        · exact .inl hop
        · right
          unfold opEnds at hop;simp at hop;omega
       have hwi:wIssueOk W m o=some {W with σ:=σ1,ops:=W.ops.set m o}:=by
        unfold wIssueOk;rw[hi];simp only;rw[if_pos ⟨hoo,hid1,by rw[sb,hc];rfl,hopk,hbz⟩]
       refine⟨{W with σ:=σ1,ops:=W.ops.set m o},⟨hwf.mono (by omega),h.wc.issue h.wf hm hi,?_,?_,?_,?_,h.i8,?_,fun k p hk=>Nat.le_trans (h.op k p hk) (by omega),Nat.le_trans h.go (by omega)⟩,hmd,fun B be w0 ks w q=>(wissue_any q hm o hwi).mono (fun e w' x=>⟨x.1,[],B,rfl,x.2⟩)⟩
       · show σ1.count≤_;have:=h.ct;omega
       · show σ1.looks≤_;have:=h.lk;omega
       · show σ1.seq≤_;omega
       · show W.deals.length=σ1.made;rw[h.dl,hmd]
       · intro q hq
         show W.ids.getD q 0=tid (σ1.txns.getD q none)
         by_cases e:q=m
         · subst e
           rw[hid,ht];obtain⟨t2,ht2⟩:=Option.isSome_iff_exists.1 htx;rw[ht2];exact (hidq t2 ht2).symm
         · rw[(hoth q e).1];exact h.ids q hq
theorem WW.step (h:WW N L n W) (hn:n<100000) (s:Int):∃ W',WW N L (n+3) W'∧W'.σ.made=W.σ.made∧
 ∀ B be w0 ks w,WK B be w0 ks W w→Calls Tryz.prog 31 #[.pointer (some ⟨B.bw,0,none⟩),zi s] w (WDone B.bw be w0 ks W'):=by
 have hsame:WW N L (n+3) W:=h.mono (by omega)
 cases hs:sI s with
 |false=>
  refine⟨W,hsame,rfl,fun B be w0 ks w q=>?_⟩;refine (wstep_no q s 1 {} (fun ks w1 q=>(status_arg be w1 s hs).mono (fun e w' x=>⟨x.1,q.below x.2⟩)) (fun ks w1 q=>(step_arg be w1 s hs).mono (fun e w' x=>⟨x.1,q.below x.2⟩)) (.inl ⟨rfl,sI_bad hs⟩)).mono (fun e w' x=>?_);obtain⟨x1,ks',x2⟩:=x;exact⟨x1,ks',B,rfl,x2⟩
 |true=>
  obtain⟨m,rfl,hm⟩:=sI_of hs
  cases hc:W.σ.calls.getD m none with
  |none=>
   refine⟨W,hsame,rfl,fun B be w0 ks w q=>?_⟩;refine (wstep_no q (m:Int) 9 (W.σ.status m) (fun ks w1 q=>status_wk q m hm) (fun ks w1 q=>?_) (.inr ⟨rfl,⟨m,rfl,hm⟩,?_⟩)).mono (fun e w' x=>?_)
   · obtain⟨A,rfl,lv,r,g,tk⟩:=q.ex
     exact (step_no lv m hm hc).mono (fun e w' x=>⟨x.1,WK.below ⟨A,rfl,lv,r,g,tk⟩ x.2⟩)
   · cases ht:W.σ.txns.getD m none with
     |none=>rw[status_nil ht]
     |some t=>rw[(status_busy ht).1,hc];rfl
   · obtain⟨x1,ks',x2⟩:=x
     exact⟨x1,ks',B,rfl,x2⟩
  |some c=>
   obtain⟨t,ht,hcx⟩:=h.wf.cx m c hc;obtain⟨σ1,kd,r,hst,hwf,hc1,hc2,hl1,hl2,hsq,hmd,hk1,hk3,hk,hover,hr0,hoth,hlive,hidq⟩:=h.wf.step hm hc (by have:=h.ct;omega) (by have:=h.lk;omega) (by omega);have hbz:(W.σ.status m).busy=true:=by rw[(status_busy ht).1,hc];rfl
   have hlk3:W.σ.looks<1000000000000000:=by have:=h.lk;omega
   have hid:=h.ids m hm;rw[ht] at hid;have hT:=h.wf.tx m t ht;have hid':W.ids.getD m 0=(t.id - 1)+1:=by rw[hid];show t.id=_;have:=hT.i1;omega
   have hidm:=h.wf.ti m t ht;have hk1':t.id - 1<W.deals.length:=by rw[h.dl];have:=hT.i1;omega
   have hp:W.deals[t.id - 1]? =some W.deals[t.id - 1]:=List.getElem?_eq_getElem hk1';have hpl:=h.op _ _ hp;have hmk:=h.wf.sh.md;have hdl:=h.dl;have hgo:=h.go;have hct:=h.ct;have hlk:=h.lk;have hsqn:=h.sq
   by_cases hkd:kd=3
   · subst hkd
     obtain⟨hcn,hro,hrr⟩:=hover rfl
     by_cases hr:r.over=0
     · have hlv:=hro.1 hr
       obtain⟨t2,ht2⟩:=Option.isSome_iff_exists.1 hlv;refine⟨{W with σ:=σ1,deals:=W.deals.set (t.id - 1) {W.deals[t.id - 1] with ops:=W.deals[t.id - 1].ops++[(W.ops.getD m default,r)]}},⟨hwf,h.wc.step h.wf hm hst,by show σ1.count≤_;omega,by show σ1.looks≤_;omega,by show σ1.seq≤_;omega,?_,h.i8,?_,?_,by show W.gone.length≤_;omega⟩,hmd,fun B be w0 ks w q=>?_⟩
       · show (W.deals.set _ _).length=σ1.made;rw[List.length_set,hdl,hmd]
       · intro q hq
         show W.ids.getD q 0=tid (σ1.txns.getD q none)
         by_cases e:q=m
         · subst e;rw[hid,ht2];exact (hidq t t2 ht ht2).symm
         · rw[(hoth q e).1];exact h.ids q hq
       · intro k p hk
         change (W.deals.set _ _)[k]? =some p at hk;rw[List.getElem?_set] at hk
         split at hk
         · obtain rfl:=Option.some.inj hk
           show (W.deals[t.id - 1].ops++[_]).length≤_;rw[List.length_append];simp;omega
         · exact Nat.le_trans (h.op k p hk) (by omega)
       · exact wstep_op q hm hst hbz hl2 hl1 hlk3 hr hid' hp (by omega) (by omega) (status_busy ht2).2.1 (by rw[(status_busy ht2).1,hcn];rfl)
     · have hln:σ1.txns.getD m none=none:=by
        cases e:σ1.txns.getD m none with
        |none=>rfl
        |some t2=>exact absurd (hro.2 (by rw[e];rfl)) hr
       have ww:∀ st (gs:List Nat),gs.length≤n+3→WW N L (n+3) {W with σ:=σ1,deals:=W.deals.set (t.id - 1) {W.deals[t.id - 1] with state:=st,end_:=(W.σ.status m).end_},ids:=W.ids.set m 0,gone:=gs}:=by
        intro st gs hgs;refine⟨hwf,h.wc.step h.wf hm hst,by show σ1.count≤_;omega,by show σ1.looks≤_;omega,by show σ1.seq≤_;omega,?_,?_,?_,?_,hgs⟩
        · show (W.deals.set _ _).length=σ1.made;rw[List.length_set,hdl,hmd]
        · show (W.ids.set m 0).length=8;rw[List.length_set];exact h.i8
        · intro q hq
          show (W.ids.set m 0).getD q 0=tid (σ1.txns.getD q none);rw[getD_setN _ _ _ _ (by rw[h.i8];exact hm)]
          by_cases e:q=m
          · rw[if_pos e,e,hln];rfl
          · rw[if_neg e,(hoth q e).1];exact h.ids q hq
        · intro k p hk
          change (W.deals.set _ _)[k]? =some p at hk;rw[List.getElem?_set] at hk
          split at hk
          · obtain rfl:=Option.some.inj hk
            show W.deals[t.id - 1].ops.length≤_;omega
          · exact Nat.le_trans (h.op k p hk) (by omega)
       rcases hrr with hrr|hrr|hrr
       · exact absurd hrr hr
       · exact⟨_,ww 3 W.gone (by omega),hmd,fun B be w0 ks w q=>wstep_done q hm hst hbz hl2 hl1 hlk3 hrr hid' hp (by omega) (status_nil hln)⟩
       · exact⟨_,ww 4 (W.gone++[r.reason]) (by rw[List.length_append];simp;omega),hmd,fun B be w0 ks w q=>wstep_gone q hm hst hbz hl2 hl1 hlk3 hrr (by omega) hid' hp (by omega) (status_nil hln)⟩
   · have hr:=hr0 hkd
     subst hr;have hlv:=hlive.resolve_right hkd;obtain⟨t2,ht2⟩:=Option.isSome_iff_exists.1 hlv;obtain⟨c',hc',hw'⟩:=hk.resolve_left hkd;refine⟨{W with σ:=σ1},⟨hwf,h.wc.step h.wf hm hst,by show σ1.count≤_;omega,by show σ1.looks≤_;omega,by show σ1.seq≤_;omega,hdl.trans hmd.symm,h.i8,?_,fun k p hk=>Nat.le_trans (h.op k p hk) (by omega),by show W.gone.length≤_;omega⟩,hmd,fun B be w0 ks w q=>?_⟩
     · intro q hq
       show W.ids.getD q 0=tid (σ1.txns.getD q none)
       by_cases e:q=m
       · subst e;rw[hid,ht2];exact (hidq t t2 ht ht2).symm
       · rw[(hoth q e).1];exact h.ids q hq
     · refine (wstep_ran q hm hst (by omega) hbz hl2 hl1 hlk3 (by rw[(status_busy ht2).1,hc'];rfl) ?_).mono fun e w' ⟨q1,ks',q2⟩=>⟨q1,ks',B,rfl,q2⟩
       unfold St.status;rw[ht2,hc'];exact hw'
theorem sweep_wk {B:WBook} {be:Nat} {w0 w:World} {ks:List Kept} (h:WK B be w0 ks W w) (hok:okSweep W.σ=true):
 Calls Tryz.prog 24 #[.pointer (some ⟨be,0,none⟩)] w fun e w'=>(∃ b,e=.returned (.bool b))∧WK B be w0 ks {W with σ:=W.σ.sweep.1} w':=by
 obtain⟨A,rfl,l,r,g,t⟩:=h.ex;refine (sweep_any l hok).mono ?_;rintro e w' ⟨rfl,A',s1,hL',g'⟩;have hbe:A'.be=A.be:=by obtain⟨⟨L,v,c,f,m,hc',gc,cs,rfl⟩,_⟩:=s1;rfl
 exact⟨⟨_,rfl⟩,WK.of l r g t hL' g' hbe⟩
theorem WW.sweep (h:WW N L n W):WW N L (n+3) {W with σ:=W.σ.sweep.1}∧W.σ.sweep.1.made=W.σ.made∧W.σ.looks≤W.σ.sweep.1.looks∧W.σ.sweep.1.looks≤W.σ.looks+1:=by
 obtain⟨h1,h2,h3,h4,h5,h6,h7,h8,h9,h10⟩:=h.wf.sweep;have hct:=h.ct;have hlk:=h.lk;have hsqn:=h.sq;have hgo:=h.go;refine⟨⟨h1.mono (by omega),h.wc.sweep h.wf,by show W.σ.sweep.1.count≤_;omega,by show W.σ.sweep.1.looks≤_;omega,by show W.σ.sweep.1.seq≤_;omega,h.dl.trans h7.symm,h.i8,fun q hq=>?_,fun k p hk=>Nat.le_trans (h.op k p hk) (by omega),by show W.gone.length≤_;omega⟩,h7,h4,h5⟩;show W.ids.getD q 0=tid (W.σ.sweep.1.txns.getD q none);rw[h8];exact h.ids q hq
end
end Go.Proofs.YtmgghljjjpcgkaaGreat.Em
namespace Go.Proofs.YtmgghljjjpcgkaaGreat.Em
open Go.ChangeShapes Go.WideShapes Go.ChangeAt Go.RowKit En
set_option linter.unusedVariables false
set_option linter.unusedSimpArgs false
set_option maxRecDepth 100000
set_option maxHeartbeats 1600000
theorem WW.do_ {N L n:Nat} {W:Wd} (h:WW N L n W) (hn:n<100000) (hmd:W.σ.made<2000) (p:Pk):∃ W',WW N L (n+3) W'∧W'.σ.made≤W.σ.made+1∧
 ∀ B be w0 ks w,WK B be w0 ks W w→Calls Tryz.prog 6 #[.pointer (some ⟨B.bw,0,none⟩),.agg #[zi p.kd,zi p.s,zi p.l,zi p.k,zi p.key,zi p.hi,zi p.v]] w (WDone B.bw be w0 ks W'):=by
 obtain⟨kd,s,l,k,key,hi,v⟩:=p;simp only
 by_cases h0:kd=0
 · subst h0
   obtain⟨W',h1,h2,h3⟩:=h.begin_ (by omega) hmd s l;refine⟨W',h1,h2,?_⟩;intro B be w0 ks w q;have qa:=q.alloc (.cells #[zi 0,zi s,zi l,zi k,zi key,zi hi,zi v] 30);have hb:=qa.obj List.mem_cons_self;have z0:=obj_cell hb 0 rfl;have z1:=obj_cell hb 1 rfl;have z2:=obj_cell hb 2 rfl;have z3:=obj_cell hb 3 rfl;have z4:=obj_cell hb 4 rfl;have z5:=obj_cell hb 5 rfl;have z6:=obj_cell hb 6 rfl;clear hb;have HC:=zH (h3 B be w0 _ _ qa);clear h h1 h2 h3 hn hmd q qa;go_enter Tryz.func6,Tryz.ntmps6;go_wp2_with (go_at_call 29;refine HC.out.mono ?_;rintro e w1 ⟨rfl,qq⟩;have TR:=zH qq;clear qq);go_ret;obtain⟨ks',B',hb1,hb2⟩:=TR.out;exact⟨rfl,ks'++[_],B',hb1,by rw[List.append_assoc];exact hb2⟩
 by_cases h1:kd=1
 · subst h1
   clear h0;obtain⟨W',h1,h2,h3⟩:=h.issue (by omega) s k key hi v;refine⟨W',h1,by omega,?_⟩;intro B be w0 ks w q;have qa:=q.alloc (.cells #[zi 1,zi s,zi l,zi k,zi key,zi hi,zi v] 30);have hb:=qa.obj List.mem_cons_self;have z0:=obj_cell hb 0 rfl;have z1:=obj_cell hb 1 rfl;have z2:=obj_cell hb 2 rfl;have z3:=obj_cell hb 3 rfl;have z4:=obj_cell hb 4 rfl;have z5:=obj_cell hb 5 rfl;have z6:=obj_cell hb 6 rfl;clear hb;have HC:=zH (h3 B be w0 _ _ qa);clear h h1 h2 h3 hn hmd q qa;go_enter Tryz.func6,Tryz.ntmps6;go_wp2_with (go_at_call 30;refine HC.out.mono ?_;rintro e w1 ⟨rfl,qq⟩;have TR:=zH qq;clear qq);go_ret;obtain⟨ks',B',hb1,hb2⟩:=TR.out;exact⟨rfl,ks'++[_],B',hb1,by rw[List.append_assoc];exact hb2⟩
 by_cases h6:kd=6
 · subst h6
   clear h0 h1;obtain⟨k1,k2,k3,k4⟩:=h.sweep;refine⟨_,k1,by show W.σ.sweep.1.made≤_;omega,?_⟩;obtain⟨lk,hlk⟩:∃ lk,lk=W.σ.looks:=⟨_,rfl⟩
   obtain⟨lk1,hlk1⟩:∃ lk1,lk1=W.σ.sweep.1.looks:=⟨_,rfl⟩
   have hlb:lk<10000000:=by have:=h.lk;omega
   rw[←hlk,←hlk1] at k4;have hok:okSweep W.σ=true:=h.wf.okSweep (by omega) (by have:=h.ct;omega) (by have:=h.lk;omega);intro B be w0 ks w q;have qa:=q.alloc (.cells #[zi 6,zi s,zi l,zi k,zi key,zi hi,zi v] 30);have hb:=qa.obj List.mem_cons_self;have z0:=obj_cell hb 0 rfl;have z1:=obj_cell hb 1 rfl;have z2:=obj_cell hb 2 rfl;have z3:=obj_cell hb 3 rfl;have z4:=obj_cell hb 4 rfl;have z5:=obj_cell hb 5 rfl;have z6:=obj_cell hb 6 rfl;clear hb;have c1:((lk1:Int)≤(lk:Int)+1)=True:=by simp;omega
   have c2:decide ((lk1:Int)≤(lk:Int)+1)=true:=by simp;omega
   have n1:IntKind.i64.wrap ((lk:Int)+1)=(lk:Int)+1:=by rw[IntKind.wrap_i64];omega
   have x0:=(qa.wcell 0 rfl).1;have N1:Hid (∀ ks w1,WK B be w0 ks W w1→Calls Tryz.prog 7 #[.pointer (some ⟨be,0,none⟩)] w1 fun e w'=>e=.returned (zi (lk:Int))∧w1=w'):=fun ks w1 q=>by
    have hh:=looks_wk q;rw[←hlk] at hh;exact hh
   have N2:Hid (∀ ks w1,WK B be w0 ks {W with σ:=W.σ.sweep.1} w1→Calls Tryz.prog 7 #[.pointer (some ⟨be,0,none⟩)] w1 fun e w'=>e=.returned (zi (lk1:Int))∧w1=w'):=fun ks w1 q=>by
    have hh:=looks_wk q;rw[←hlk1] at hh;exact hh
   have N3:=zH (sweep_wk qa hok);have C:Hid (∀ σ' ks w1,WK B be w0 ks {W with σ:=σ'} w1→w1.cell? ⟨B.bw,0,none⟩=some (.pointer (some ⟨be,0,none⟩))):=fun σ' ks w1 q=>(q.wcell 0 rfl).1
   have T0:=zH qa;clear h hn hmd q qa hlk hlk1 k1 k2 k3 k4 hlb hok;go_enter Tryz.func6,Tryz.ntmps6;go_wp2_with (first|(go_at_call 7;refine (N1.out _ _ T0.out).mono ?_;rintro e w' ⟨rfl,rfl⟩;have T1:=T0;clear T0)|(go_at_call 24;refine N3.out.mono ?_;rintro e w2 ⟨⟨b,rfl⟩,q⟩;have x2:=C.out _ _ _ q;have T2:=zH q;clear q)|(go_at_call 7;refine (N2.out _ _ T2.out).mono ?_;rintro e w' ⟨rfl,rfl⟩));go_ret;exact⟨rfl,[_],B,rfl,T2.out⟩
 · have f0:(kd==0)=false:=by simpa using h0
   have f1:(kd==1)=false:=by simpa using h1
   have f6:(kd==6)=false:=by simpa using h6
   have e0:(kd=0)=False:=by simpa using h0
   have e1:(kd=1)=False:=by simpa using h1
   have e6:(kd=6)=False:=by simpa using h6
   obtain⟨W',h1',h2,h3⟩:=h.step hn s;refine⟨W',h1',by omega,?_⟩;intro B be w0 ks w q;have qa:=q.alloc (.cells #[zi kd,zi s,zi l,zi k,zi key,zi hi,zi v] 30);have hb:=qa.obj List.mem_cons_self;have z0:=obj_cell hb 0 rfl;have z1:=obj_cell hb 1 rfl;have z2:=obj_cell hb 2 rfl;have z3:=obj_cell hb 3 rfl;have z4:=obj_cell hb 4 rfl;have z5:=obj_cell hb 5 rfl;have z6:=obj_cell hb 6 rfl;clear hb;have HC:=zH (h3 B be w0 _ _ qa);clear h h0 h1 h6 h1' h2 h3 hn hmd q qa;go_enter Tryz.func6,Tryz.ntmps6;go_wp2_with (go_at_call 31;refine HC.out.mono ?_;rintro e w1 ⟨rfl,qq⟩;have TR:=zH qq;clear qq);go_ret;obtain⟨ks',B',hb1,hb2⟩:=TR.out;exact⟨rfl,ks'++[_],B',hb1,by rw[List.append_assoc];exact hb2⟩
end Go.Proofs.YtmgghljjjpcgkaaGreat.Em
namespace Go.Proofs.YtmgghljjjpcgkaaGreat.Em
open Go.ChangeShapes Go.WideShapes Go.ChangeAt Go.RowKit En
open Cw (WF WC)
set_option linter.unusedVariables false
set_option linter.unusedSimpArgs false
set_option maxRecDepth 100000
set_option maxHeartbeats 1600000
def stI (σ:St) (s:Int):Status:=if sI s=true then σ.status s.toNat else {}
section
variable {B:WBook} {be:Nat} {w0 w w':World} {ks:List Kept} {W:Wd}
theorem statusI_wk (h:WK B be w0 ks W w) (s:Int):
 Calls Tryz.prog 9 #[.pointer (some ⟨be,0,none⟩),zi s] w fun e w'=>e=.returned (.agg (statusCs (stI W.σ s)))∧Below w.heap.size w w':=by
 unfold stI
 cases hs:sI s with
 |false=>simp only[Bool.false_eq_true,if_false];exact status_arg be w s hs
 |true=>
  obtain⟨m,rfl,hm⟩:=sI_of hs;simp only[if_true,Int.toNat_natCast];obtain⟨A,rfl,l,r,g,t⟩:=h.ex;exact status_any l m hm
theorem used_wk (h:WK B be w0 ks W w) (hu:W.σ.free.length<100000∧W.σ.list.free.length+W.σ.worn≤W.σ.slots):
 Calls Tryz.prog 8 #[.pointer (some ⟨be,0,none⟩)] w fun e w'=>e=.returned (zi (W.σ.used:Int))∧WK B be w0 ks {W with σ:=W.σ.list} w':=by
 obtain⟨A,rfl,hL,r0,g,t⟩:=h.ex;refine (used_any hL.rep hL.mp hu.1 hu.2).mono ?_;rintro e w' ⟨rfl,A',⟨⟨L,v,m,rfl⟩,pm⟩,hR',g'⟩;have hc:W.σ.list.calls=W.σ.calls:=by unfold St.list;split<;>rfl
 have ek:∀ s,kp {A with L:=L,vfree:=v,mp:=m} W.σ.list s=kp A W.σ s:=fun s=>by unfold kp St.c;rw[hc]
 refine⟨rfl,WK.of hL r0 g t (⟨hR',pm.trans hL.mp,hL.mt,fun s h c hcs=>?_,fun s h hcs=>hL.idle s h (by rw[←hc];exact hcs),hL.sx.keep rfl (sw_list _) g'⟩:Live {A with L:=L,vfree:=v,mp:=m} W.σ.list w') g' rfl⟩;obtain⟨e1,k,e2,e3⟩:=hL.call s h c (by rw[←hc];exact hcs);exact⟨e1,k,e2,by rw[ek];exact e3.grow g'⟩
end
section
variable {N L n:Nat} {W:Wd}
theorem WW.list (h:WW N L n W):WW N L n {W with σ:=W.σ.list}:=by
 obtain⟨e1,e2,e3,e4,e5,e6,e7,e8,e9⟩:=Cw.list_txns W.σ;exact⟨h.wf.list,h.wc.list h.wf,by show W.σ.list.count≤_;rw[e3];exact h.ct,by show W.σ.list.looks≤_;rw[e4];exact h.lk,by show W.σ.list.seq≤_;rw[e5];exact h.sq,h.dl.trans e6.symm,h.i8,fun s hs=>by show _=tid (W.σ.list.txns.getD s none);rw[e1];exact h.ids s hs,h.op,h.go⟩
theorem WW.new {N L:Nat} (h1:N≤256) (h2:L≤1099511627776):WW N L 0 (wNew N L):=by
 refine⟨WF.new h1 h2,WC.new _ _,Nat.zero_le _,Nat.zero_le _,Nat.zero_le _,rfl,rfl,fun s hs=>?_,fun k p hk=>by simp[wNew] at hk,Nat.zero_le _⟩;show (List.replicate 8 0).getD s 0=tid ((List.replicate 8 none).getD s none);rw[List.getD_eq_getElem?_getD,List.getD_eq_getElem?_getD,List.getElem?_replicate,List.getElem?_replicate,if_pos hs,if_pos hs];rfl
end
end Go.Proofs.YtmgghljjjpcgkaaGreat.Em
namespace Go.Proofs.YtmgghljjjpcgkaaGreat.Em
open Go.ChangeShapes Go.WideShapes Go.ChangeAt Go.RowKit En
set_option linter.unusedVariables false
set_option linter.unusedSimpArgs false
set_option maxRecDepth 100000
set_option maxHeartbeats 1600000
theorem status_neq (lv bz wt:Bool) (a1 a2 a3 a4 a5 ops:Int) (w:World):(binOp .neq 40 (.agg #[.bool lv,.bool bz,.bool wt,zi a1,zi a2,zi a3,zu a4,zu a5,zi ops]) (.agg #[.bool lv,.bool bz,.bool wt,zi a1,zi a2,zi a3,zu a4,zu a5,zi ops])).run Tryz.prog w=.ok (.bool false) w:=by
 go_simp
section
variable {bw be dw ce:Nat} {w0 w:World} {W V:Wd}
theorem W2.tale (q:W2 bw be dw ce w0 W V w) (h1:W.σ.tale.length<100000) (h2:∀ e∈W.σ.tale,e.res.pairs.length≤64):
 Calls Tryz.prog 11 #[.pointer (some ⟨be,0,none⟩)] w fun e w'=>∃ v cs,e=.returned v∧Ow.Row w' 0 12 v cs∧EvR w' W.σ.tale cs∧Below w.heap.size w w':=by
 obtain⟨B,rfl,A,rfl,l,r,g,t⟩:=(let ⟨B,e,q⟩:=q.wk;(⟨B,e,q.ex⟩:∃ B:WBook,B.bw=bw∧∃ A:Book,A.be=be∧Live A W.σ w∧WRep A W B w∧Grow (fun _=>none) w0 A.L w∧KW B.M A.L w []))
 refine (tale_any l.rep h1 (fun e he=>Nat.le_trans (h2 e he) (by decide))).mono ?_;rintro e w' ⟨v,cs,rfl,ho,hv,hb⟩;exact⟨v,cs,rfl,row_base (own_row ho),hv.evR,hb⟩
theorem W2.pairs (q:W2 bw be dw ce w0 W V w) (hok:okPairs W.σ=true):
 Calls Tryz.prog 13 #[.pointer (some ⟨be,0,none⟩)] w fun e w'=>∃ v,e=.returned v∧Ow.Row w' 0 2 v (pairCs W.σ.pairs)∧Below w.heap.size w w':=by
 obtain⟨B,rfl,A,rfl,l,r,g,t⟩:=(let ⟨B,e,q⟩:=q.wk;(⟨B,e,q.ex⟩:∃ B:WBook,B.bw=bw∧∃ A:Book,A.be=be∧Live A W.σ w∧WRep A W B w∧Grow (fun _=>none) w0 A.L w∧KW B.M A.L w []))
 refine (pairs_any l.rep hok).mono ?_;rintro e w' ⟨av,cap,rfl,ho,hb⟩;exact⟨_,rfl,row_base (own_row ho),hb⟩
theorem W2.used (q:W2 bw be dw ce w0 W V w) (hu:W.σ.free.length<100000∧W.σ.list.free.length+W.σ.worn≤W.σ.slots):
 Calls Tryz.prog 8 #[.pointer (some ⟨be,0,none⟩)] w fun e w'=>e=.returned (zi (W.σ.used:Int))∧W2 bw be dw ce w0 {W with σ:=W.σ.list} V w':=
 q.left (R:=fun e=>e=.returned (zi (W.σ.used:Int))) fun B ks hb q=>(used_wk q hu).mono fun e w' ⟨h1,h2⟩=>⟨h1,[],B,hb,h2⟩
theorem W2.looks (q:W2 bw be dw ce w0 W V w):Calls Tryz.prog 7 #[.pointer (some ⟨be,0,none⟩)] w fun e w'=>e=.returned (zi (W.σ.looks:Int))∧w=w':=by
 obtain⟨B,hb,q'⟩:=q.wk;exact looks_wk q'
theorem W2.status (q:W2 bw be dw ce w0 W V w) (s:Int):Calls Tryz.prog 9 #[.pointer (some ⟨be,0,none⟩),zi s] w fun e w'=>e=.returned (.agg (statusCs (stI W.σ s)))∧W2 bw be dw ce w0 W V w':=by
 obtain⟨B,hb,q'⟩:=q.wk;exact (statusI_wk q' s).mono fun e w' ⟨h1,h2⟩=>⟨h1,q.below h2⟩
end
set_option maxHeartbeats 16000000 in
theorem es_any (vl:Value) (es:List Pk) (w0:World) (hv:Ow.Row w0 0 7 vl (flatP es)):
 Calls Tryz.prog 3 #[vl] w0 fun e w'=>e=.returned (.bool true)∧Below w0.heap.size w0 w':=by
 obtain⟨a,cap,rfl,hmax,hrow⟩:=row_picks hv;clear hv;obtain⟨n,hn⟩:∃ n,n=es.length:=⟨_,rfl⟩
 rw[←hn] at hmax;rw[←hn];have HN:Hid (∀ w,Calls Tryz.prog 5 #[zi 30,zu 200] w fun e w'=>∃ B be,e=.returned (.pointer (some ⟨B.bw,0,none⟩))∧WK B be w [] (wNew 30 200) w'):=fun w=>wnew_any 30 200 (by omega) (by omega) (by omega) (by omega) w
 have HA:=zH awake23;have HR:Hid (∀ i e,es[i]? =some e→∃ g off,a=some ⟨g,off,none⟩∧∀ w',Below w0.heap.size w0 w'→∀ f u,f<7→(pkCs e)[f]? =some u→w'.cell? ⟨g,off+(i*7+f),none⟩=some u):=hrow;have HL:=zH hn;clear hrow hn;go_enter Tryz.func3,Tryz.ntmps3;go_upto_region 4 with (first|(go_at_call 5;refine (HN.out w0).mono ?_;rintro e w1 ⟨B,be,rfl,q⟩;have T0:=zH q;clear q)|(go_at_call 5;refine (HN.out _).mono ?_;rintro e w2 ⟨D,ce,rfl,q⟩;have T1:=zH q;clear q))
 have H0:Hid (W2 B.bw be D.bw ce w0 (wNew 30 200) (wNew 30 200) _):=w2_new T0.out T1.out rfl (fun s=>by show (List.replicate 8 none).getD s none=none;rw[List.getD_eq_getElem?_getD,List.getElem?_replicate];split<;>rfl) rfl rfl;generalize B.bw=bw at*;generalize D.bw=dw at*;clear T0 T1;go_wp2_with fail
 go_loopw [5] (fun i wr=>∃ (m:Nat) (W:Wd),i=zi (m:Int)∧m≤200∧m≤n∧WW 30 200 (3*m) W∧W.σ.made≤m∧W2 bw be dw ce w0 W W wr) (fun i _=>200 - (intOf i).toNat)
 case atStart=>exact⟨0,_,rfl,by omega,by omega,WW.new (by omega) (by omega),Nat.le_refl _,H0.out⟩
 case round=>
  clear H0;obtain⟨m,W,rfl,hm1,hm2,hW,hmd,q⟩:=hrel;have n1:IntKind.i64.wrap ((m:Int)+1)=(m:Int)+1:=by rw[IntKind.wrap_i64];omega
  by_cases hlt:m<200∧m<n
  · obtain⟨hl1,hl2⟩:=hlt
    obtain⟨e,he⟩:∃ e,es[m]? =some e:=⟨es[m]'(by rw[←HL.out];exact hl2),List.getElem?_eq_getElem _⟩
    obtain⟨g,off,rfl,hr⟩:=HR.out m e he;obtain⟨W1,hW1,hmd1,hdo⟩:=hW.do_ (by omega) (by omega) e;obtain⟨kd,s,l,k,key,hi,v⟩:=e;have HX:Hid (∀ V w,W2 bw be dw ce w0 W V w→Calls Tryz.prog 6 #[.pointer (some ⟨bw,0,none⟩),.agg #[zi kd,zi s,zi l,zi k,zi key,zi hi,zi v]] w fun e w'=>e=.returned (.bool true)∧W2 bw be dw ce w0 W1 V w'):=fun V w q=>q.left (R:=fun e=>e=.returned (.bool true)) fun B ks hb q=>by
     have:=hdo B be w0 ks w q;rw[hb] at this;exact this
    have HY : Hid (∀ V w, W2 bw be dw ce w0 V W w → Calls Tryz.prog 6 #[.pointer (some ⟨dw, 0, none⟩), .agg #[zi kd, zi s, zi l, zi k, zi key, zi hi, zi v]] w fun e w' => e = .returned (.bool true) ∧ W2 bw be dw ce w0 V W1 w') := fun V w q => (q.symm.left (R := fun e => e = .returned (.bool true)) fun B ks hb q => by
      have:=hdo B ce w0 ks w q
      rw[hb] at this
      exact this).mono fun e w' h=>⟨h.1,h.2.symm⟩
    have hwf:=hW1.wf;obtain⟨W2',hW2⟩:∃ W2',W2'={W1 with σ:=W1.σ.list}:=⟨_,rfl⟩
    have hWW2:WW 30 200 (3*m+3) W2':=by rw[hW2];exact hW1.list
    have hmd2:W2'.σ.made≤m+1:=by rw[hW2];show W1.σ.list.made≤_;rw[(Cw.list_txns W1.σ).2.2.2.2.2.1];omega
    obtain⟨lk,hlk⟩:∃ lk,lk=W1.σ.looks:=⟨_,rfl⟩
    obtain⟨us,hus⟩:∃ us,us=W1.σ.used:=⟨_,rfl⟩
    obtain⟨lv,bz,wt,a1,a2,a3,a4,a5,ops,hst,-,-⟩:=statusCs_form (stI W2'.σ s);have HLX:Hid (∀ V w,W2 bw be dw ce w0 W1 V w→Calls Tryz.prog 7 #[.pointer (some ⟨be,0,none⟩)] w fun e w'=>e=.returned (zi (lk:Int))∧w=w'):=fun V w q=>by rw[hlk];exact q.looks
    have HLY:Hid (∀ V w,W2 bw be dw ce w0 V W1 w→Calls Tryz.prog 7 #[.pointer (some ⟨ce,0,none⟩)] w fun e w'=>e=.returned (zi (lk:Int))∧w=w'):=fun V w q=>by rw[hlk];exact q.symm.looks
    have HUX:Hid (∀ V w,W2 bw be dw ce w0 W1 V w→Calls Tryz.prog 8 #[.pointer (some ⟨be,0,none⟩)] w fun e w'=>e=.returned (zi (us:Int))∧W2 bw be dw ce w0 W2' V w'):=fun V w q=>by rw[hus,hW2];exact q.used hwf.usedOk
    have HUY:Hid (∀ V w,W2 bw be dw ce w0 V W1 w→Calls Tryz.prog 8 #[.pointer (some ⟨ce,0,none⟩)] w fun e w'=>e=.returned (zi (us:Int))∧W2 bw be dw ce w0 V W2' w'):=fun V w q=>by rw[hus,hW2];exact (q.symm.used hwf.usedOk).mono fun e w' h=>⟨h.1,h.2.symm⟩
    have HSX:Hid (∀ V w,W2 bw be dw ce w0 W2' V w→Calls Tryz.prog 9 #[.pointer (some ⟨be,0,none⟩),zi s] w fun e w'=>e=.returned (.agg #[.bool lv,.bool bz,.bool wt,zi a1,zi a2,zi a3,zu a4,zu a5,zi ops])∧W2 bw be dw ce w0 W2' V w'):=fun V w q=>by rw[←hst];exact q.status s
    have HSY:Hid (∀ V w,W2 bw be dw ce w0 V W2' w→Calls Tryz.prog 9 #[.pointer (some ⟨ce,0,none⟩),zi s] w fun e w'=>e=.returned (.agg #[.bool lv,.bool bz,.bool wt,zi a1,zi a2,zi a3,zu a4,zu a5,zi ops])∧W2 bw be dw ce w0 V W2' w'):=fun V w q=>by rw[←hst];exact (q.symm.status s).mono fun e w' h=>⟨h.1,h.2.symm⟩
    have HC:Hid (∀ w',Below w0.heap.size w0 w'→w'.cell? ⟨g,off+m*7,none⟩=some (zi kd)∧w'.cell? ⟨g,off+m*7+1,none⟩=some (zi s)∧w'.cell? ⟨g,off+m*7+2,none⟩=some (zi l)∧w'.cell? ⟨g,off+m*7+3,none⟩=some (zi k)∧w'.cell? ⟨g,off+m*7+4,none⟩=some (zi key)∧w'.cell? ⟨g,off+m*7+5,none⟩=some (zi hi)∧w'.cell? ⟨g,off+m*7+6,none⟩=some (zi v)):=fun w' hb=>by
     have hr2:=hr w' hb;have c0:=hr2 0 (zi kd) (by omega) rfl;have c1:=hr2 1 (zi s) (by omega) rfl;have c2:=hr2 2 (zi l) (by omega) rfl;have c3:=hr2 3 (zi k) (by omega) rfl;have c4:=hr2 4 (zi key) (by omega) rfl;have c5:=hr2 5 (zi hi) (by omega) rfl;have c6:=hr2 6 (zi v) (by omega) rfl;simp only[Nat.add_zero,←Nat.add_assoc] at c0 c1 c2 c3 c4 c5 c6;exact⟨c0,c1,c2,c3,c4,c5,c6⟩
    have hneq:=status_neq lv bz wt a1 a2 a3 a4 a5 ops;obtain⟨c0,c1,c2,c3,c4,c5,c6⟩:=HC.out wr q.toBelow;have i1:(0:Int)≤(m:Int):=by omega
    have i2:(m:Int)<(n:Int):=by omega
    have i3:(m:Int)<200:=by omega
    have HQ:=zH (zA hWW2 (zA hmd2 (zA hm1 hm2)));have T0:=zH q;clear hr hdo hW hmd q he hm2 hW1 hmd1 hwf hW2 hlk hus hst hWW2 hmd2;have HKS:Hid (∀ V1 V2 w',W2 bw be dw ce w0 V1 V2 w'→w'.cell? ⟨bw,0,none⟩=some (.pointer (some ⟨be,0,none⟩))∧w'.cell? ⟨dw,0,none⟩=some (.pointer (some ⟨ce,0,none⟩))∧w'.cell? ⟨g,off+m*7,none⟩=some (zi kd)∧w'.cell? ⟨g,off+m*7+1,none⟩=some (zi s)∧w'.cell? ⟨g,off+m*7+2,none⟩=some (zi l)∧w'.cell? ⟨g,off+m*7+3,none⟩=some (zi k)∧w'.cell? ⟨g,off+m*7+4,none⟩=some (zi key)∧w'.cell? ⟨g,off+m*7+5,none⟩=some (zi hi)∧w'.cell? ⟨g,off+m*7+6,none⟩=some (zi v)):=fun V1 V2 w' q=>⟨q.cell,q.symm.cell,HC.out w' q.toBelow⟩
    have S0:=HKS.out _ _ _ T0.out;have TD:=zH T0.out.drew;clear c0 c1 c2 c3 c4 c5 c6 T0;go_upto_region 7 with fail
    simp only[List.append_eq,List.cons_append,List.nil_append]
    go_region_held3 (fun w'=>w'.cell? ⟨bw,0,none⟩=some (.pointer (some ⟨be,0,none⟩))∧w'.cell? ⟨dw,0,none⟩=some (.pointer (some ⟨ce,0,none⟩))∧w'.cell? ⟨g,off+m*7,none⟩=some (zi kd)∧w'.cell? ⟨g,off+m*7+1,none⟩=some (zi s)∧w'.cell? ⟨g,off+m*7+2,none⟩=some (zi l)∧w'.cell? ⟨g,off+m*7+3,none⟩=some (zi k)∧w'.cell? ⟨g,off+m*7+4,none⟩=some (zi key)∧w'.cell? ⟨g,off+m*7+5,none⟩=some (zi hi)∧w'.cell? ⟨g,off+m*7+6,none⟩=some (zi v))
     (first|exact S0|assumption|go_keep|exact HKS.out _ _ _ T1.out|exact HKS.out _ _ _ T2.out|exact HKS.out _ _ _ T3.out|exact HKS.out _ _ _ T4.out|exact HKS.out _ _ _ T5.out|exact HKS.out _ _ _ T6.out)
     (first
     |(go_at_call 6;refine (HX.out _ _ TD.out).mono ?_;clear S0;rintro e w1 ⟨rfl,q1⟩;have T1:=zH q1;clear q1 TD)
     |(go_at_call 6;refine (HY.out _ _ T1.out).mono ?_;rintro e w2 ⟨rfl,q2⟩;have T2:=zH q2;have L1:=T2;clear q2 T1)
     |(go_at_call 7;refine (HLX.out _ _ L1.out).mono ?_;rintro e w2' ⟨rfl,rfl⟩;have L2:=L1;clear L1)
     |(go_at_call 7;refine (HLY.out _ _ L2.out).mono ?_;rintro e w2' ⟨rfl,rfl⟩;have L3:=L2;clear L2)
     |(go_at_call 8;refine (HUX.out _ _ L3.out).mono ?_;rintro e w3 ⟨rfl,q3⟩;have T3:=zH q3;clear q3 T2 L3)
     |(go_at_call 8;refine (HUY.out _ _ T3.out).mono ?_;rintro e w4 ⟨rfl,q4⟩;have T4:=zH q4;clear q4 T3)
     |(go_at_call 9;refine (HSX.out _ _ T4.out).mono ?_;rintro e w5 ⟨rfl,q5⟩;have T5:=zH q5;clear q5 T4)
     |(go_at_call 9;refine (HSY.out _ _ T5.out).mono ?_;rintro e w6 ⟨rfl,q6⟩;have T6:=zH q6;clear q6 T5))
    go_wp2_with fail
    go_roundw
    case rel=>exact⟨m+1,W2',rfl,by omega,by omega,HQ.out.1.mono (by omega),HQ.out.2.1,T6.out⟩
    case measure=>simp[intOf];omega
  · have hlt2:m<n→¬ m<200:=fun a b=>hlt ⟨b,a⟩
    have hwf:=hW.wf;have hok:okPairs W.σ=true:=hW.wc.okPairs hW.wf;have ht1:W.σ.tale.length<100000:=by have:=hwf.sh.tl;omega
    have ht2:=hwf.sh.tp;obtain⟨tl,htl⟩:∃ tl,tl=W.σ.tale:=⟨_,rfl⟩
    obtain⟨ps,hps⟩:∃ ps,ps=W.σ.pairs:=⟨_,rfl⟩
    have HTX:Hid (∀ w,W2 bw be dw ce w0 W W w→Calls Tryz.prog 11 #[.pointer (some ⟨be,0,none⟩)] w fun e w'=>∃ v cs,e=.returned v∧Ow.Row w' 0 12 v cs∧EvR w' tl cs∧Below w.heap.size w w'):=fun w q=>by rw[htl];exact q.tale ht1 ht2
    have HTY:Hid (∀ w,W2 bw be dw ce w0 W W w→Calls Tryz.prog 11 #[.pointer (some ⟨ce,0,none⟩)] w fun e w'=>∃ v cs,e=.returned v∧Ow.Row w' 0 12 v cs∧EvR w' tl cs∧Below w.heap.size w w'):=fun w q=>by rw[htl];exact q.symm.tale ht1 ht2
    have HPX:Hid (∀ w,W2 bw be dw ce w0 W W w→Calls Tryz.prog 13 #[.pointer (some ⟨be,0,none⟩)] w fun e w'=>∃ v,e=.returned v∧Ow.Row w' 0 2 v (pairCs ps)∧Below w.heap.size w w'):=fun w q=>by rw[hps];exact q.pairs hok
    have HPY:Hid (∀ w,W2 bw be dw ce w0 W W w→Calls Tryz.prog 13 #[.pointer (some ⟨ce,0,none⟩)] w fun e w'=>∃ v,e=.returned v∧Ow.Row w' 0 2 v (pairCs ps)∧Below w.heap.size w w'):=fun w q=>by rw[hps];exact q.symm.pairs hok
    have HKS:Hid (∀ w',W2 bw be dw ce w0 W W w'→w'.cell? ⟨bw,0,none⟩=some (.pointer (some ⟨be,0,none⟩))∧w'.cell? ⟨dw,0,none⟩=some (.pointer (some ⟨ce,0,none⟩))):=fun w' q=>⟨q.cell,q.symm.cell⟩
    have x0:=q.cell;have y0:=q.symm.cell;have TQ:=zH q.drew;clear hW hwf hok ht1 ht2 htl hps hmd hmax q;have hk:((m:Int)<(n:Int))=False∨((m:Int)<(n:Int))=True∧((m:Int)<200)=False:=by
     by_cases h:m<n
     · exact .inr ⟨by simp;omega,by have:=hlt2 h;simp;omega⟩
     · exact .inl (by simp;omega)
    clear hlt hlt2 hm1 hm2;have hk2:(m:Int)<(n:Int)∨¬ (m:Int)<(n:Int):=by omega
    rcases hk with k1|⟨k1,k2⟩
    all_goals (
     clear hk2
     go_upto_region 9 with fail
     go_region_held3 (fun w'=>w'.cell? ⟨bw,0,none⟩=some (.pointer (some ⟨be,0,none⟩))∧w'.cell? ⟨dw,0,none⟩=some (.pointer (some ⟨ce,0,none⟩)))
      (first|exact⟨x0,y0⟩|assumption|go_keep|exact HKS.out _ T1.out|exact HKS.out _ T2.out|exact HKS.out _ T3.out|exact HKS.out _ T4.out|exact HKS.out _ T5.out|exact HKS.out _ T6.out|exact HKS.out _ T7.out)
      (first
        |(go_at_call 11;refine (HTX.out _ TQ.out).mono ?_;rintro e w1 ⟨v1,cs1,rfl,r1,v1',hb⟩;have T1:=zH (TQ.out.below hb);clear TQ hb)
        |(go_at_call 11;refine (HTY.out _ T1.out).mono ?_;rintro e w2 ⟨v2,cs2,rfl,r2,v2',hb⟩;have T2:=zH (T1.out.below hb);have r12:=r1.below hb;have v12:=v1'.below hb;clear T1 hb r1 v1')
        |(go_at_call 10;refine (same_events _ _ tl cs1 cs2 _ r12 r2 v12 v2').mono ?_;rintro e w3 ⟨rfl,hb⟩;have T3:=zH (T2.out.below hb);clear T2 hb r12 r2 v12 v2')
        |(go_at_call 13;refine (HPX.out _ T3.out).mono ?_;rintro e w4 ⟨v4,rfl,r4,hb⟩;have T4:=zH (T3.out.below hb);clear T3 hb)
        |(go_at_call 13;refine (HPY.out _ T4.out).mono ?_;rintro e w5 ⟨v5,rfl,r5,hb⟩;have T5:=zH (T4.out.below hb);have r45:=r4.below hb;clear T4 hb r4)
        |(go_at_call 12;refine (same_pairs _ _ ps 0 0 _ r45 r5).mono ?_;rintro e w6 ⟨rfl,hb⟩;have T6:=zH (T5.out.below hb);clear T5 hb r45 r5)
        |(go_at_call 14;refine (HA.out _).mono ?_;rintro e w7 ⟨rfl,hb⟩;have T7:=zH (T6.out.below hb);clear T6 hb))
     go_wp2_with fail
     go_ret
     exact⟨rfl,T7.out.toBelow⟩)
end Go.Proofs.YtmgghljjjpcgkaaGreat.Em
