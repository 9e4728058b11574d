import Derived.Test.YtbefcdjcefmicaaGreatKq52
import Derived.Deep.CutRange
namespace Go.Proofs.YtbefcdjcefmicaaGreat.Em
open Go.ChangeShapes Go.WideShapes Go.ChangeAt Go.RowKit En
set_option linter.unusedVariables false
set_option linter.unusedSimpArgs false
set_option maxRecDepth 100000
set_option maxHeartbeats 1600000
theorem WW.do_ {N L n:Nat} {W:Wd} (h:WW N L n W) (hn:n<100000) (hmd:W.σ.made<2000) (p:Pk):∃ W',WW N L (n+3) W'∧W'.σ.made≤W.σ.made+1∧
 ∀ B be w0 ks w,WK B be w0 ks W w→Calls Tryz.prog 45 #[.pointer (some ⟨B.bw,0,none⟩),.agg #[zi p.kd,zi p.s,zi p.l,zi p.k,zi p.key,zi p.hi,zi p.v]] w (WDone B.bw be w0 ks W'):=by
 obtain⟨kd,s,l,k,key,hi,v⟩:=p;simp only
 by_cases h0:kd=0
 · subst h0
   obtain⟨W',h1,h2,h3⟩:=h.begin_ (by omega) hmd s l;refine⟨W',h1,h2,?_⟩;intro B be w0 ks w q;have qa:=q.alloc (.cells #[zi 0,zi s,zi l,zi k,zi key,zi hi,zi v] 97);have hb:=qa.obj List.mem_cons_self;have z0:=obj_cell hb 0 rfl;have z1:=obj_cell hb 1 rfl;have z2:=obj_cell hb 2 rfl;have z3:=obj_cell hb 3 rfl;have z4:=obj_cell hb 4 rfl;have z5:=obj_cell hb 5 rfl;have z6:=obj_cell hb 6 rfl;clear hb;have HC:=zH (h3 B be w0 _ _ qa);clear h h1 h2 h3 hn hmd q qa;go_enter Tryz.func45,Tryz.ntmps45;go_wp2_with (go_at_call 16;refine HC.out.mono ?_;rintro e w1 ⟨rfl,qq⟩;have TR:=zH qq;clear qq);go_ret;obtain⟨ks',B',hb1,hb2⟩:=TR.out;exact⟨rfl,ks'++[_],B',hb1,by rw[List.append_assoc];exact hb2⟩
 by_cases h1:kd=1
 · subst h1
   clear h0;obtain⟨W',h1,h2,h3⟩:=h.issue (by omega) s k key hi v;refine⟨W',h1,by omega,?_⟩;intro B be w0 ks w q;have qa:=q.alloc (.cells #[zi 1,zi s,zi l,zi k,zi key,zi hi,zi v] 97);have hb:=qa.obj List.mem_cons_self;have z0:=obj_cell hb 0 rfl;have z1:=obj_cell hb 1 rfl;have z2:=obj_cell hb 2 rfl;have z3:=obj_cell hb 3 rfl;have z4:=obj_cell hb 4 rfl;have z5:=obj_cell hb 5 rfl;have z6:=obj_cell hb 6 rfl;clear hb;have HC:=zH (h3 B be w0 _ _ qa);clear h h1 h2 h3 hn hmd q qa;go_enter Tryz.func45,Tryz.ntmps45;go_wp2_with (go_at_call 21;refine HC.out.mono ?_;rintro e w1 ⟨rfl,qq⟩;have TR:=zH qq;clear qq);go_ret;obtain⟨ks',B',hb1,hb2⟩:=TR.out;exact⟨rfl,ks'++[_],B',hb1,by rw[List.append_assoc];exact hb2⟩
 by_cases h6:kd=6
 · subst h6
   clear h0 h1;obtain⟨k1,k2,k3,k4⟩:=h.sweep;refine⟨_,k1,by show W.σ.sweep.1.made≤_;omega,?_⟩;obtain⟨lk,hlk⟩:∃ lk,lk=W.σ.looks:=⟨_,rfl⟩
   obtain⟨lk1,hlk1⟩:∃ lk1,lk1=W.σ.sweep.1.looks:=⟨_,rfl⟩
   have hlb:lk<10000000:=by have:=h.lk;omega
   rw[←hlk,←hlk1] at k4;have hok:okSweep W.σ=true:=h.wf.okSweep (by omega) (by have:=h.ct;omega) (by have:=h.lk;omega);intro B be w0 ks w q;have qa:=q.alloc (.cells #[zi 6,zi s,zi l,zi k,zi key,zi hi,zi v] 97);have hb:=qa.obj List.mem_cons_self;have z0:=obj_cell hb 0 rfl;have z1:=obj_cell hb 1 rfl;have z2:=obj_cell hb 2 rfl;have z3:=obj_cell hb 3 rfl;have z4:=obj_cell hb 4 rfl;have z5:=obj_cell hb 5 rfl;have z6:=obj_cell hb 6 rfl;clear hb;have c1:((lk1:Int)≤(lk:Int)+1)=True:=by simp;omega
   have c2:decide ((lk1:Int)≤(lk:Int)+1)=true:=by simp;omega
   have n1:IntKind.i64.wrap ((lk:Int)+1)=(lk:Int)+1:=by rw[IntKind.wrap_i64];omega
   have x0:=(qa.wcell 0 rfl).1;have N1:Hid (∀ ks w1,WK B be w0 ks W w1→Calls Tryz.prog 29 #[.pointer (some ⟨be,0,none⟩)] w1 fun e w'=>e=.returned (zi (lk:Int))∧w1=w'):=fun ks w1 q=>by
    have hh:=looks_wk q;rw[←hlk] at hh;exact hh
   have N2:Hid (∀ ks w1,WK B be w0 ks {W with σ:=W.σ.sweep.1} w1→Calls Tryz.prog 29 #[.pointer (some ⟨be,0,none⟩)] w1 fun e w'=>e=.returned (zi (lk1:Int))∧w1=w'):=fun ks w1 q=>by
    have hh:=looks_wk q;rw[←hlk1] at hh;exact hh
   have N3:=zH (sweep_wk qa hok);have C:Hid (∀ σ' ks w1,WK B be w0 ks {W with σ:=σ'} w1→w1.cell? ⟨B.bw,0,none⟩=some (.pointer (some ⟨be,0,none⟩))):=fun σ' ks w1 q=>(q.wcell 0 rfl).1
   have T0:=zH qa;clear h hn hmd q qa hlk hlk1 k1 k2 k3 k4 hlb hok;go_enter Tryz.func45,Tryz.ntmps45;go_wp2_with (first|(go_at_call 29;refine (N1.out _ _ T0.out).mono ?_;rintro e w' ⟨rfl,rfl⟩;have T1:=T0;clear T0)|(go_at_call 81;refine N3.out.mono ?_;rintro e w2 ⟨⟨b,rfl⟩,q⟩;have x2:=C.out _ _ _ q;have T2:=zH q;clear q)|(go_at_call 29;refine (N2.out _ _ T2.out).mono ?_;rintro e w' ⟨rfl,rfl⟩));go_ret;exact⟨rfl,[_],B,rfl,T2.out⟩
 · have f0:(kd==0)=false:=by simpa using h0
   have f1:(kd==1)=false:=by simpa using h1
   have f6:(kd==6)=false:=by simpa using h6
   have e0:(kd=0)=False:=by simpa using h0
   have e1:(kd=1)=False:=by simpa using h1
   have e6:(kd=6)=False:=by simpa using h6
   obtain⟨W',h1',h2,h3⟩:=h.step hn s;refine⟨W',h1',by omega,?_⟩;intro B be w0 ks w q;have qa:=q.alloc (.cells #[zi kd,zi s,zi l,zi k,zi key,zi hi,zi v] 97);have hb:=qa.obj List.mem_cons_self;have z0:=obj_cell hb 0 rfl;have z1:=obj_cell hb 1 rfl;have z2:=obj_cell hb 2 rfl;have z3:=obj_cell hb 3 rfl;have z4:=obj_cell hb 4 rfl;have z5:=obj_cell hb 5 rfl;have z6:=obj_cell hb 6 rfl;clear hb;have HC:=zH (h3 B be w0 _ _ qa);clear h h0 h1 h6 h1' h2 h3 hn hmd q qa;go_enter Tryz.func45,Tryz.ntmps45;go_wp2_with (go_at_call 22;refine HC.out.mono ?_;rintro e w1 ⟨rfl,qq⟩;have TR:=zH qq;clear qq);go_ret;obtain⟨ks',B',hb1,hb2⟩:=TR.out;exact⟨rfl,ks'++[_],B',hb1,by rw[List.append_assoc];exact hb2⟩
end Go.Proofs.YtbefcdjcefmicaaGreat.Em
namespace Go.Proofs.YtbefcdjcefmicaaGreat.Em
open Go.ChangeShapes Go.WideShapes Go.ChangeAt Go.RowKit En
open Cw (WF)
set_option linter.unusedVariables false
set_option linter.unusedSimpArgs false
set_option maxRecDepth 100000
set_option maxHeartbeats 1600000
def stI (σ:St) (s:Int):Status:=if sI s=true then σ.status s.toNat else {}
section
variable {B:WBook} {be:Nat} {w0 w w':World} {ks:List Kept} {W:Wd}
theorem WK.belowObj (h:WK B be w0 ks W w) (hb:Below w.heap.size w w') {g:Nat} {o:Obj} (hg:w.heap.size≤g) (ho:w'.heap[g]? =some o):WK B be w0 (.obj g o::ks) W w':=by
 obtain⟨A,e,l,r,g0,t⟩:=h.ex;exact⟨A,e,l.below hb,r.grow (Grow.below hb) rfl W.σ,g0.trans (Grow.below hb),⟨l.rep.mem.fresh g hg,ho⟩,Kepts.grow (Grow.below hb) t⟩
theorem statusI_wk (h:WK B be w0 ks W w) (s:Int):
 Calls Tryz.prog 18 #[.pointer (some ⟨be,0,none⟩),zi s] w fun e w'=>e=.returned (.agg (statusCs (stI W.σ s)))∧Below w.heap.size w w':=by
 unfold stI
 cases hs:sI s with
 |false=>simp only[Bool.false_eq_true,if_false];exact status_arg be w s hs
 |true=>
  obtain⟨m,rfl,hm⟩:=sI_of hs;simp only[if_true,Int.toNat_natCast];obtain⟨A,rfl,l,r,g,t⟩:=h.ex;exact status_any l m hm
theorem used_wk (h:WK B be w0 ks W w) (hu:W.σ.free.length<100000∧W.σ.list.free.length+W.σ.worn≤W.σ.slots):
 Calls Tryz.prog 28 #[.pointer (some ⟨be,0,none⟩)] w fun e w'=>e=.returned (zi (W.σ.used:Int))∧WK B be w0 ks {W with σ:=W.σ.list} w':=by
 obtain⟨A,rfl,hL,r0,g,t⟩:=h.ex;refine (used_any hL.rep hL.mp hu.1 hu.2).mono ?_;rintro e w' ⟨rfl,A',⟨⟨L,v,m,rfl⟩,pm⟩,hR',g'⟩;have hc:W.σ.list.calls=W.σ.calls:=by unfold St.list;split<;>rfl
 have ek:∀ s,kp {A with L:=L,vfree:=v,mp:=m} W.σ.list s=kp A W.σ s:=fun s=>by unfold kp St.c;rw[hc]
 refine⟨rfl,WK.of hL r0 g t (⟨hR',pm.trans hL.mp,hL.mt,fun s h c hcs=>?_,fun s h hcs=>hL.idle s h (by rw[←hc];exact hcs),hL.sx.keep rfl (sw_list _) g'⟩:Live {A with L:=L,vfree:=v,mp:=m} W.σ.list w') g' rfl⟩;obtain⟨e1,k,e2,e3⟩:=hL.call s h c (by rw[←hc];exact hcs);exact⟨e1,k,e2,by rw[ek];exact e3.grow g'⟩
theorem taleLen_wk (h:WK B be w0 ks W w) (hn:W.σ.tale.length<100000) (hp:∀ e∈W.σ.tale,e.res.pairs.length≤64):
 Calls Tryz.prog 31 #[.pointer (some ⟨be,0,none⟩)] w fun e w'=>∃ a c,e=.returned (.slice a W.σ.tale.length c)∧Below w.heap.size w w':=by
 obtain⟨A,rfl,l,r,g,t⟩:=h.ex;refine (tale_any l.rep hn (fun e he=>Nat.le_trans (hp e he) (by decide))).mono ?_;rintro e w' ⟨v,cs,rfl,ho,_,hb⟩;obtain⟨a,c,rfl,_⟩:=Ow.own_form ho;exact⟨a,c,rfl,hb⟩
end
structure Same (σ σ1:St):Prop where
 st:∀ s,stI σ1 s=stI σ s
 now:σ1.now=σ.now
 used:σ1.used=σ.used
 looks:σ1.looks=σ.looks
 tale:σ1.tale.length=σ.tale.length
theorem Same.refl (σ:St):Same σ σ:=⟨fun _=>rfl,rfl,rfl,rfl,rfl⟩
theorem Same.tick (σ:St):Same σ σ.tick:=by
 refine⟨fun _=>rfl,rfl,?_,rfl,rfl⟩;unfold St.used St.list
 by_cases hl:σ.listed=true
 · have hl2:σ.tick.listed=true:=hl
   rw[if_pos hl,if_pos hl2];rfl
 · have hl2:¬ σ.tick.listed=true:=hl
   rw[if_neg hl,if_neg hl2];rfl
theorem Same.list (σ:St):Same σ σ.list:=by
 unfold St.list
 split
 · exact Same.refl σ
 · rename_i hl
   refine⟨fun _=>rfl,rfl,?_,rfl,rfl⟩;unfold St.used St.list;rw[if_neg hl,if_pos rfl]
theorem Same.trans {a b c:St} (h:Same a b) (k:Same b c):Same a c:=⟨fun s=>(k.st s).trans (h.st s),k.now.trans h.now,k.used.trans h.used,k.looks.trans h.looks,k.tale.trans h.tale⟩
section
variable {N L n:Nat} {W:Wd}
theorem WW.eBegin (h:WW N L n W) (hn:n<300000) (hmd:W.σ.made<2000) (s level:Int):∃ (id er:Int) (σ1:St),(er=0∨er≠0∧WF N L n σ1∧Same W.σ σ1)∧
 ∀ B be w0 ks w,WK B be w0 ks W w→Calls Tryz.prog 41 #[.pointer (some ⟨be,0,none⟩),zi s,zi level] w fun e w'=>e=.returned (.tuple #[zi id,zi er])∧WK B be w0 ks {W with σ:=σ1} w':=by
 have hct:=h.ct;have hw0:=(h.wf.sh.wd 0).u
 by_cases hok:sI s=true∧lI level=true
 · obtain⟨m,rfl,hm⟩:=sI_of hok.1
   obtain⟨l,rfl,hl1,hl3⟩:=lI_of hok.2
   cases ht:W.σ.txns.getD m none with
   |some t=>
    refine⟨0,9,W.σ,.inr ⟨by omega,h.wf,Same.refl _⟩,fun B be w0 ks w q=>?_⟩;obtain⟨A,rfl,lv,r,g,tk⟩:=q.ex;refine (begin_taken lv m hm l hl1 hl3 t ht).mono ?_;rintro e w' ⟨A',rfl,hL',g',e'⟩;exact⟨rfl,WK.of lv r g tk hL' g' e'⟩
   |none=>
    by_cases hlim:timeOf (W.σ.word 0)<W.σ.limit
    · obtain⟨σ1,hb,_⟩:=h.wf.begin_ hm ht hl1 hl3 hmd hlim (by omega) (by omega)
      exact⟨((W.σ.made+1:Nat):Int),0,σ1,.inl rfl,fun B be w0 ks w q=>begin_wk q hm hb⟩
    · refine⟨0,16,W.σ.tick,.inr ⟨by omega,h.wf.tick,Same.tick _⟩,fun B be w0 ks w q=>?_⟩
      obtain⟨A,rfl,lv,r,g,tk⟩:=q.ex;refine (begin_over lv m hm l hl1 hl3 ht hmd hw0 (by omega) (by omega)).mono ?_;rintro e w' ⟨A',rfl,hL',g',e'⟩;exact⟨rfl,WK.of lv r g tk hL' g' e'⟩
 · have hb:sI s=false∨lI level=false:=by
    cases h1:sI s with
    |false=>exact .inl rfl
    |true=>
     cases h2:lI level with
     |false=>exact .inr rfl
     |true=>exact absurd ⟨h1,h2⟩ hok
   refine⟨0,1,W.σ,.inr ⟨by omega,h.wf,Same.refl _⟩,fun B be w0 ks w q=>(begin_arg be w s level hb).mono ?_⟩;rintro e w' ⟨rfl,rfl⟩;exact⟨rfl,q⟩
theorem WW.eIssue (h:WW N L n W) (hn:n<300000) (s k key hi v:Int):∃ (er:Int) (σ1:St),(er=0∨er≠0∧WF N L n σ1∧Same W.σ σ1)∧
 ∀ B be w0 ks w,WK B be w0 ks W w→Calls Tryz.prog 17 #[.pointer (some ⟨be,0,none⟩),zi s,.agg #[zi k,zi key,zi hi,zi v]] w fun e w'=>e=.returned (zi er)∧WK B be w0 ks {W with σ:=σ1} w':=by
 cases hs:sI s with
 |false=>exact⟨1,W.σ,.inr ⟨by omega,h.wf,Same.refl _⟩,fun B be w0 ks w q=>(issue_arg be w s k key hi v hs).mono (fun e w' x=>⟨x.1,q.below x.2⟩)⟩
 |true=>
  obtain⟨m,rfl,hm⟩:=sI_of hs;have refuse:∀ er:Int,er≠0→(∀ A w,Live A W.σ w→Calls Tryz.prog 17 #[.pointer (some ⟨A.be,0,none⟩),zi (m:Int),.agg #[zi k,zi key,zi hi,zi v]] w fun e w'=>e=.returned (zi er)∧Below w.heap.size w w')→∃ (er:Int) (σ1:St),(er=0∨er≠0∧WF N L n σ1∧Same W.σ σ1)∧
   ∀ B be w0 ks w,WK B be w0 ks W w→Calls Tryz.prog 17 #[.pointer (some ⟨be,0,none⟩),zi (m:Int),.agg #[zi k,zi key,zi hi,zi v]] w fun e w'=>e=.returned (zi er)∧WK B be w0 ks {W with σ:=σ1} w':=by
   intro er her hI;refine⟨er,W.σ,.inr ⟨her,h.wf,Same.refl _⟩,fun B be w0 ks w q=>?_⟩;obtain⟨A,rfl,lv,r,g,tk⟩:=q.ex;exact (hI A w lv).mono (fun e w' x=>⟨x.1,WK.below ⟨A,rfl,lv,r,g,tk⟩ x.2⟩)
  cases ht:W.σ.txns.getD m none with
  |none=>exact refuse 9 (by omega) (fun A w lv=>issue_no lv m hm k key hi v (.inl ht))
  |some t=>
   cases ho:opI k key hi v with
   |false=>exact refuse 9 (by omega) (fun A w lv=>issue_no lv m hm k key hi v (.inr (.inl ho)))
   |true=>
    cases hc:W.σ.calls.getD m none with
    |some c=>exact refuse 9 (by omega) (fun A w lv=>issue_no lv m hm k key hi v (.inr (.inr (by rw[hc];rfl))))
    |none=>
     obtain⟨o,rfl,rfl,rfl,rfl,hoo⟩:=opI_of ho
     by_cases hmany:12≤t.ops∧opEnds o=false
     · exact refuse 65 (by omega) (fun A w lv=>issue_many lv m hm t ht o hoo hmany.2 hc hmany.1)
     · have hop:t.ops<12∨opEnds o=true:=by
        by_cases h12:t.ops<12
        · exact .inl h12
        · right
          cases e:opEnds o with
          |true=>rfl
          |false=>exact absurd ⟨by omega,e⟩ hmany
       have hsq:=h.sq;obtain⟨σ1,hi,_⟩:=h.wf.issue hm ht hc hoo hop (by omega) (by omega);exact⟨0,σ1,.inl rfl,fun B be w0 ks w q=>issue_wk q hm hi⟩
theorem WW.eStep (h:WW N L n W) (hn:n<300000) (s:Int):∃ (er:Int) (σ1:St),(er=0∨er≠0∧WF N L n σ1∧Same W.σ σ1)∧
 ∀ B be w0 ks w,WK B be w0 ks W w→Calls Tryz.prog 19 #[.pointer (some ⟨be,0,none⟩),zi s] w fun e w'=>∃ d:Array Value,e=.returned (.tuple #[.agg d,zi er])∧WK B be w0 ks {W with σ:=σ1} w':=by
 cases hs:sI s with
 |false=>exact⟨1,W.σ,.inr ⟨by omega,h.wf,Same.refl _⟩,fun B be w0 ks w q=>(step_arg be w s hs).mono (fun e w' x=>⟨_,x.1,q.below x.2⟩)⟩
 |true=>
  obtain⟨m,rfl,hm⟩:=sI_of hs
  cases hc:W.σ.calls.getD m none with
  |none=>
   refine⟨9,W.σ,.inr ⟨by omega,h.wf,Same.refl _⟩,fun B be w0 ks w q=>?_⟩;obtain⟨A,rfl,lv,r,g,tk⟩:=q.ex;exact (step_no lv m hm hc).mono (fun e w' x=>⟨_,x.1,WK.below ⟨A,rfl,lv,r,g,tk⟩ x.2⟩)
  |some c=>
   obtain⟨σ1,kd,r,hst,_⟩:=h.wf.step hm hc (by have:=h.ct;omega) (by have:=h.lk;omega) (by omega);refine⟨0,σ1,.inl rfl,fun B be w0 ks w q=>(step_wk q hm hst).mono ?_⟩;rintro e w' ⟨va,vn,vc,rfl,_,q2⟩;exact⟨_,rfl,q2.tail⟩
theorem WW.list (h:WW N L n W):WW N L n {W with σ:=W.σ.list}:=by
 obtain⟨e1,e2,e3,e4,e5,e6,e7,e8,e9⟩:=Cw.list_txns W.σ;exact⟨h.wf.list,by show W.σ.list.count≤_;rw[e3];exact h.ct,by show W.σ.list.looks≤_;rw[e4];exact h.lk,by show W.σ.list.seq≤_;rw[e5];exact h.sq,h.dl.trans e6.symm,h.i8,fun s hs=>by show _=tid (W.σ.list.txns.getD s none);rw[e1];exact h.ids s hs,h.op,h.go⟩
theorem WW.new {N L:Nat} (h1:N≤256) (h2:L≤1099511627776):WW N L 0 (wNew N L):=by
 refine⟨WF.new h1 h2,Nat.zero_le _,Nat.zero_le _,Nat.zero_le _,rfl,rfl,fun s hs=>?_,fun k p hk=>by simp[wNew] at hk,Nat.zero_le _⟩;show (List.replicate 8 0).getD s 0=tid ((List.replicate 8 none).getD s none);rw[List.getD_eq_getElem?_getD,List.getD_eq_getElem?_getD,List.getElem?_replicate,List.getElem?_replicate,if_pos hs,if_pos hs];rfl
end
end Go.Proofs.YtbefcdjcefmicaaGreat.Em
namespace Go.Proofs.YtbefcdjcefmicaaGreat.Em
open Go.ChangeShapes Go.WideShapes Go.ChangeAt Go.RowKit En
set_option linter.unusedVariables false
set_option linter.unusedSimpArgs false
set_option maxRecDepth 100000
set_option maxHeartbeats 1600000
theorem pick_cell {w:World} {g off:Nat} {l:List Pk} (h:∀ j,j<l.length*7→w.cell? ⟨g,off+j,none⟩=(flatP l)[j]?) (i:Nat) (e:Pk) (hi:l[i]? =some e):
 ∀ f,f<7→w.cell? ⟨g,off+(i*7+f),none⟩=(pkCs e)[f]? :=by
 intro f hf;have hl:i<l.length:=(List.getElem?_eq_some_iff.1 hi).1;rw[h (i*7+f) (by omega)];have key:∀ (l:List Pk) (i:Nat),l[i]? =some e→(flatP l)[i*7+f]? =(pkCs e)[f]? :=by
  intro l
  induction l with
  |nil=>intro i hi;simp at hi
  |cons e0 l ih=>
   intro i hi;show (pkCs e0++flatP l)[i*7+f]? =_
   cases i with
   |zero=>
    simp at hi;subst hi;rw[List.getElem?_append_left (by show 0*7+f<7;omega)];simp
   |succ i=>
    rw[List.getElem?_append_right (by show 7≤_;omega)];rw[show (i+1)*7+f - (pkCs e0).length=i*7+f from by show _ - 7=_;omega];exact ih i (by simpa using hi)
 exact key l i hi
theorem row_picks {w:World} {v:Value} {l:List Pk} (h:Ow.Row w 0 7 v (flatP l)):∃ a cap,v=.slice a l.length cap∧l.length≤9223372036854775807∧∀ i e,l[i]? =some e→∃ g off,a=some ⟨g,off,none⟩∧∀ w',Below w.heap.size w w'→∀ f u,f<7→(pkCs e)[f]? =some u→w'.cell? ⟨g,off+(i*7+f),none⟩=some u:=by
 obtain⟨a,n,cap,rfl,hn,hc,hm,h5⟩:=h;rw[flatP_length] at hn;obtain rfl:n=l.length:=by omega
 unfold maxLen at hm;refine⟨a,cap,rfl,by omega,fun i e hi=>?_⟩;have hl:i<l.length:=(List.getElem?_eq_some_iff.1 hi).1
 rcases h5 with h5|⟨g,off,rfl,_,hg,hcell⟩
 · omega
 · refine⟨g,off,rfl,fun w' hb f u hf hu=>?_⟩
   rw[hb.cell (p:=⟨g,off+(i*7+f),none⟩) hg,pick_cell hcell i e hi f hf,hu]
def ETold (σ σ1:St):Prop:=(∃ n,n≤1000∧Cw.WF 20 60 n σ1)∧Same σ σ1
theorem ETold.list {σ σ1:St} (h:ETold σ σ1):ETold σ σ1.list:=by
 obtain⟨⟨n,hn,hw⟩,hs⟩:=h;exact⟨⟨n,hn,hw.list⟩,hs.trans (Same.list σ1)⟩
section
variable {B:WBook} {be:Nat} {w0 w:World} {ks:List Kept} {W:Wd} {σ:St}
theorem told_status (h:ETold σ W.σ) (q:WK B be w0 ks W w) (s:Int):Calls Tryz.prog 18 #[.pointer (some ⟨be,0,none⟩),zi s] w fun e w'=>e=.returned (.agg (statusCs (stI σ s)))∧Below w.heap.size w w':=by
 have hh:=statusI_wk q s;rw[h.2.st s] at hh;exact hh
theorem told_now (h:ETold σ W.σ) (q:WK B be w0 ks W w):Calls Tryz.prog 27 #[.pointer (some ⟨be,0,none⟩)] w fun e w'=>e=.returned (zu (σ.now:Int))∧WK B be w0 ks W w':=by
 obtain⟨⟨n,hn,hw⟩,hs⟩:=h;have hh:=now_wk q (hw.sh.wd 0).u;rw[hs.now] at hh;exact hh
theorem told_used (h:ETold σ W.σ) (q:WK B be w0 ks W w):Calls Tryz.prog 28 #[.pointer (some ⟨be,0,none⟩)] w fun e w'=>e=.returned (zi (σ.used:Int))∧WK B be w0 ks {W with σ:=W.σ.list} w':=by
 obtain⟨⟨n,hn,hw⟩,hs⟩:=h;have hh:=used_wk q hw.usedOk;rw[hs.used] at hh;exact hh
theorem told_looks (h:ETold σ W.σ) (q:WK B be w0 ks W w):Calls Tryz.prog 29 #[.pointer (some ⟨be,0,none⟩)] w fun e w'=>e=.returned (zi (σ.looks:Int))∧w=w':=by
 obtain⟨⟨n,hn,hw⟩,hs⟩:=h;have hh:=looks_wk q;rw[hs.looks] at hh;exact hh
theorem told_tale (h:ETold σ W.σ) (q:WK B be w0 ks W w):Calls Tryz.prog 31 #[.pointer (some ⟨be,0,none⟩)] w fun e w'=>∃ a c,e=.returned (.slice a σ.tale.length c)∧Below w.heap.size w w':=by
 obtain⟨⟨n,hn,hw⟩,hs⟩:=h;have hh:=taleLen_wk q (by have:=hw.sh.tl;omega) hw.sh.tp;rw[hs.tale] at hh;exact hh
end
theorem box_at {w w':World} {o:Obj} (hb:Below (w.alloc o).heap.size (w.alloc o) w'):w'.heap[w.heap.size]? =some o:=by
 have h:w.heap.size<(w.alloc o).heap.size:=by simp
 rw[hb.block w.heap.size h];show (w.heap.push o)[w.heap.size]? =_;exact Array.getElem?_push_size
theorem box_below {w w':World} {o:Obj} (hb:Below (w.alloc o).heap.size (w.alloc o) w'):Below w.heap.size w w':=
 ((Below.refl _ w).alloc (Nat.le_refl _) o).trans (hb.mono (by simp))
set_option maxHeartbeats 16000000 in
theorem er_any (vl:Value) (es:List Pk) (p:Pk) (w:World) (hv:Ow.Row w 0 7 vl (flatP es)):
 Calls Tryz.prog 12 #[vl,pkV p] w fun e w'=>e=.returned (.bool true)∧Below w.heap.size w w':=by
 obtain⟨kd,s,l,k,key,hi,v⟩:=p;unfold pkV pkCs;simp only[List.toArray];obtain⟨a,cap,rfl,hmax,hrow⟩:=row_picks hv;clear hv;obtain⟨n,hn⟩:∃ n,n=es.length:=⟨_,rfl⟩
 rw[←hn] at hmax;rw[←hn];have HN:Hid (Calls Tryz.prog 15 #[zi 20,zu 60] (w.alloc (.cells #[zi kd,zi s,zi l,zi k,zi key,zi hi,zi v] 97)) fun e w'=>∃ B be,e=.returned (.pointer (some ⟨B.bw,0,none⟩))∧WK B be (w.alloc (.cells #[zi kd,zi s,zi l,zi k,zi key,zi hi,zi v] 97)) [] (wNew 20 60) w'):=zH (wnew_any 20 60 (by omega) (by omega) (by omega) (by omega) _);have HA:=zH awake23;have HB0:Hid (∀ w',Below (w.alloc (.cells #[zi kd,zi s,zi l,zi k,zi key,zi hi,zi v] 97)).heap.size (w.alloc (.cells #[zi kd,zi s,zi l,zi k,zi key,zi hi,zi v] 97)) w'→Below w.heap.size w w'):=fun w' hb=>box_below hb
 have HP:Hid (∀ w',Below (w.alloc (.cells #[zi kd,zi s,zi l,zi k,zi key,zi hi,zi v] 97)).heap.size (w.alloc (.cells #[zi kd,zi s,zi l,zi k,zi key,zi hi,zi v] 97)) w'→w'.cell? ⟨w.heap.size,0,none⟩=some (zi kd)∧w'.cell? ⟨w.heap.size,1,none⟩=some (zi s)∧w'.cell? ⟨w.heap.size,2,none⟩=some (zi l)∧w'.cell? ⟨w.heap.size,3,none⟩=some (zi k)∧w'.cell? ⟨w.heap.size,4,none⟩=some (zi key)∧w'.cell? ⟨w.heap.size,5,none⟩=some (zi hi)∧w'.cell? ⟨w.heap.size,6,none⟩=some (zi v)):=fun w' hb=>by
  have ho:=box_at hb;exact⟨obj_cell ho 0 rfl,obj_cell ho 1 rfl,obj_cell ho 2 rfl,obj_cell ho 3 rfl,obj_cell ho 4 rfl,obj_cell ho 5 rfl,obj_cell ho 6 rfl⟩
 have HR:Hid (∀ i e,es[i]? =some e→∃ g off,a=some ⟨g,off,none⟩∧∀ w',Below (w.alloc (.cells #[zi kd,zi s,zi l,zi k,zi key,zi hi,zi v] 97)).heap.size (w.alloc (.cells #[zi kd,zi s,zi l,zi k,zi key,zi hi,zi v] 97)) w'→∀ f u,f<7→(pkCs e)[f]? =some u→w'.cell? ⟨g,off+(i*7+f),none⟩=some u):=fun i e hx=>by
  obtain⟨g,off,h1,h2⟩:=hrow i e hx;exact⟨g,off,h1,fun w' hb=>h2 w' (box_below hb)⟩
 have HL:=zH hn;clear hrow hn;go_enter Tryz.func12,Tryz.ntmps12;go_upto_region 4 with (go_at_call 15;refine HN.out.mono ?_;rintro e w1 ⟨B,be,rfl,q⟩;have T0:=zH q;clear q HN)
 generalize w.alloc (.cells #[zi kd,zi s,zi l,zi k,zi key,zi hi,zi v] 97)=w0 at*;generalize hg0:w.heap.size=g0 at*;have HG0:=zH hg0;clear hg0;obtain⟨bw,hbw⟩:∃ bw,bw=B.bw:=⟨_,rfl⟩
 rw[←hbw];have H0:=zH (zA T0.out hbw);clear T0 hbw;have C:Hid (∀ (B:WBook) ks W w1,B.bw=bw→WK B be w0 ks W w1→w1.cell? ⟨bw,0,none⟩=some (.pointer (some ⟨be,0,none⟩))):=fun B ks W w1 e q=>by rw[←e];exact (q.wcell 0 rfl).1
 go_wp2_with fail
 go_loopw [6] (fun i wr=>∃ (m:Nat) (ks:List Kept) (B':WBook) (W:Wd),i=zi (m:Int)∧m≤100∧m≤n∧B'.bw=bw∧WW 20 60 (3*m) W∧W.σ.made≤m∧WK B' be w0 ks W wr) (fun i _=>100 - (intOf i).toNat)
 case atStart=>exact⟨0,[],B,_,rfl,by omega,by omega,H0.out.2.symm,WW.new (by omega) (by omega),Nat.le_refl _,H0.out.1⟩
 case round=>
  clear H0;obtain⟨m,ks,B',W,rfl,hm1,hm2,hbw,hW,hmd,q⟩:=hrel;have n1:IntKind.i64.wrap ((m:Int)+1)=(m:Int)+1:=by rw[IntKind.wrap_i64];omega
  by_cases hlt:m<100∧m<n
  · obtain⟨hl1,hl2⟩:=hlt
    obtain⟨e,he⟩:∃ e,es[m]? =some e:=⟨es[m]'(by rw[←HL.out];exact hl2),List.getElem?_eq_getElem _⟩
    obtain⟨g,off,rfl,hr⟩:=HR.out m e he;obtain⟨W',hW',hmd',hdo⟩:=hW.do_ (by omega) (by omega) e;obtain⟨ekd,es_,el,ek,ekey,ehi,ev⟩:=e;have hd:=hdo B' be w0 ks wr q;rw[hbw] at hd;have HD:=zH hd;have hr2:=hr wr q.toBelow;have c0:=hr2 0 (zi ekd) (by omega) rfl;have c1:=hr2 1 (zi es_) (by omega) rfl;have c2:=hr2 2 (zi el) (by omega) rfl;have c3:=hr2 3 (zi ek) (by omega) rfl;have c4:=hr2 4 (zi ekey) (by omega) rfl;have c5:=hr2 5 (zi ehi) (by omega) rfl;have c6:=hr2 6 (zi ev) (by omega) rfl;simp only[Nat.add_zero,←Nat.add_assoc] at c0 c1 c2 c3 c4 c5 c6;have i1:(0:Int)≤(m:Int):=by omega
    have i2:(m:Int)<(n:Int):=by omega
    have i3:(m:Int)<100:=by omega
    have HQ:=zH (zA hW' (zA hmd' (zA hmd (zA hm1 hm2))));have x0:=C.out _ _ _ _ hbw q;clear hd hdo hr hr2 hW hW' hmd hmd' q hbw he hm2;go_wp2_with (go_at_call 45;refine HD.out.mono ?_;rintro e w1 ⟨rfl,ks',B'',hb,q⟩;have T1:=zH (zA hb q);clear hb q)
    go_roundw
    case rel=>exact⟨m+1,_,_,W',rfl,by omega,by omega,T1.out.1,HQ.out.1.mono (by omega),by have:=HQ.out.2.1;have:=HQ.out.2.2.1;omega,T1.out.2⟩
    case measure=>simp[intOf];omega
  · have hlt2:m<n→¬ m<100:=fun a b=>hlt ⟨b,a⟩
    obtain⟨lv,bz,wt,a1,a2,a3,a4,a5,ops,hst,hbz,hops⟩:=statusCs_form (stI W.σ s);clear hbz hops;obtain⟨σ,hσ⟩:∃ σ,σ=W.σ:=⟨_,rfl⟩
    obtain⟨nw,hnw⟩:∃ nw,nw=σ.now:=⟨_,rfl⟩
    obtain⟨us,hus⟩:∃ us,us=σ.used:=⟨_,rfl⟩
    obtain⟨lk,hlk⟩:∃ lk,lk=σ.looks:=⟨_,rfl⟩
    obtain⟨tn,htn⟩:∃ tn,tn=σ.tale.length:=⟨_,rfl⟩
    rw[←hσ] at hst;have T:Hid (ETold σ W.σ):=⟨⟨3*m,by omega,hW.wf⟩,by rw[hσ];exact Same.refl _⟩
    have NS:Hid (∀ B ks W w,ETold σ W.σ→WK B be w0 ks W w→Calls Tryz.prog 18 #[.pointer (some ⟨be,0,none⟩),zi s] w fun e w'=>e=.returned (.agg #[.bool lv,.bool bz,.bool wt,zi a1,zi a2,zi a3,zu a4,zu a5,zi ops])∧Below w.heap.size w w'):=fun B ks W w h q=>by
     have hh:=told_status h q s;rw[hst] at hh;exact hh
    have NN:Hid (∀ B ks W w,ETold σ W.σ→WK B be w0 ks W w→Calls Tryz.prog 27 #[.pointer (some ⟨be,0,none⟩)] w fun e w'=>e=.returned (zu (nw:Int))∧WK B be w0 ks W w'):=fun B ks W w h q=>by rw[hnw];exact told_now h q
    have NU:Hid (∀ B ks W w,ETold σ W.σ→WK B be w0 ks W w→Calls Tryz.prog 28 #[.pointer (some ⟨be,0,none⟩)] w fun e w'=>e=.returned (zi (us:Int))∧WK B be w0 ks {W with σ:=W.σ.list} w'):=fun B ks W w h q=>by rw[hus];exact told_used h q
    have NL:Hid (∀ B ks W w,ETold σ W.σ→WK B be w0 ks W w→Calls Tryz.prog 29 #[.pointer (some ⟨be,0,none⟩)] w fun e w'=>e=.returned (zi (lk:Int))∧w=w'):=fun B ks W w h q=>by rw[hlk];exact told_looks h q
    have NT:Hid (∀ B ks W w,ETold σ W.σ→WK B be w0 ks W w→Calls Tryz.prog 31 #[.pointer (some ⟨be,0,none⟩)] w fun e w'=>∃ a c,e=.returned (.slice a tn c)∧Below w.heap.size w w'):=fun B ks W w h q=>by rw[htn];exact told_tale h q
    have heq:=status_eq lv bz wt a1 a2 a3 a4 a5 ops;have HS:Hid (∀ B ks W w1 g,WK B be w0 (.obj g (.cells #[.bool lv,.bool bz,.bool wt,zi a1,zi a2,zi a3,zu a4,zu a5,zi ops] 38)::ks) W w1→w1.cell? ⟨g,0,none⟩=some (.bool lv)∧w1.cell? ⟨g,1,none⟩=some (.bool bz)∧w1.cell? ⟨g,2,none⟩=some (.bool wt)∧w1.cell? ⟨g,3,none⟩=some (zi a1)∧w1.cell? ⟨g,4,none⟩=some (zi a2)∧w1.cell? ⟨g,5,none⟩=some (zi a3)∧w1.cell? ⟨g,6,none⟩=some (zu a4)∧w1.cell? ⟨g,7,none⟩=some (zu a5)∧w1.cell? ⟨g,8,none⟩=some (zi ops)):=fun B ks W w1 g q=>by
     have hb:=q.obj (List.mem_cons_self);exact⟨obj_cell hb 0 rfl,obj_cell hb 1 rfl,obj_cell hb 2 rfl,obj_cell hb 3 rfl,obj_cell hb 4 rfl,obj_cell hb 5 rfl,obj_cell hb 6 rfl,obj_cell hb 7 rfl,obj_cell hb 8 rfl⟩
    have HQ:=zH (zA hW (zA hbw (zA q hσ)));have HM:Hid (W.σ.made<2000∧3*m<1000):=⟨by omega,by omega⟩
    have x0:=C.out _ _ _ _ hbw q;obtain⟨p0,p1,p2,p3,p4,p5,p6⟩:=HP.out wr q.toBelow;have HK:Hid (∀ (B:WBook) ks W w',B.bw=bw→WK B be w0 ks W w'→w'.cell? ⟨bw,0,none⟩=some (.pointer (some ⟨be,0,none⟩))∧w'.cell? ⟨g0,1,none⟩=some (zi s)):=fun B ks W w' e q=>⟨C.out _ _ _ _ e q,(HP.out _ q.toBelow).2.1⟩
    have TQ:=zH q.drew;have HBW:=zH hbw;clear hW hbw q hst hσ hnw hus hlk htn hmd hmax;have hk:((m:Int)<(n:Int))=False∨((m:Int)<(n:Int))=True∧((m:Int)<100)=False:=by
     by_cases h:m<n
     · exact .inr ⟨by simp;omega,by have:=hlt2 h;simp;omega⟩
     · exact .inl (by simp;omega)
    clear hlt hlt2 hm1 hm2;have hk2:(m:Int)<(n:Int)∨¬ (m:Int)<(n:Int):=by omega
    rcases hk with k1|⟨k1,k2⟩
    all_goals (
     clear hk2
     go_upto_region 9 with fail
     go_cut [7] from 33 to 39 (fun p7 wx=>∃ g1:Nat,p7=.pointer (some ⟨g1,0,none⟩)∧WK B' be w0 (.obj g1 (.cells #[.bool lv,.bool bz,.bool wt,zi a1,zi a2,zi a3,zu a4,zu a5,zi ops] 38)::ks) W wx)
     case first=>
      refine wp_region_held_drew (S:=fun w'=>w'.cell? ⟨bw,0,none⟩=some (.pointer (some ⟨be,0,none⟩))∧w'.cell? ⟨g0,1,none⟩=some (zi s)) (by kernel_rfl) ?_ (fun hHeld=>?_)
      · (try dsimp only);exact⟨x0,p1⟩
      clear x0 p0 p1 p2 p3 p4 p5 p6
      generalize wr.drew=vd at*
      refine zqt (i:=0) (v:=?_) rfl (by kernel_rfl) (fun _ _ _ h=>h) (Or.inl ⟨by rfl,?_⟩) hHeld ?_
      rotate_left
      · (intro w hSw;(try dsimp only at hSw);go_simp;(try with_reducible rfl))
      (try simp only[zqa,zqb,zqc,Act.put,zqd,zqe,zqf])
      refine zqt (i:=1) (v:=?_) rfl (by kernel_rfl) (fun _ _ _ h=>h) (Or.inl ⟨by rfl,?_⟩) hHeld ?_
      rotate_left
      · (intro w hSw;(try dsimp only at hSw);go_simp;(try with_reducible rfl))
      (try simp only[zqa,zqb,zqc,Act.put,zqd,zqe,zqf])
      refine zqt (i:=2) (v:=?_) rfl (by kernel_rfl) (fun _ _ _ h=>h) (Or.inl ⟨by rfl,?_⟩) hHeld ?_
      rotate_left
      · (intro w hSw;(try dsimp only at hSw);go_simp;(try with_reducible rfl))
      (try simp only[zqa,zqb,zqc,Act.put,zqd,zqe,zqf])
      refine zqt (i:=3) (v:=?_) rfl (by kernel_rfl) (fun _ _ _ h=>h) (Or.inl ⟨by rfl,?_⟩) hHeld ?_
      rotate_left
      · (intro w hSw;(try dsimp only at hSw);go_simp;(try with_reducible rfl))
      (try simp only[zqa,zqb,zqc,Act.put,zqd,zqe,zqf])
      refine zqt (i:=4) (v:=?_) rfl (by kernel_rfl) (fun _ _ _ h=>h) (Or.inl ⟨by rfl,?_⟩) hHeld ?_
      rotate_left
      · (intro w hSw;(try dsimp only at hSw);go_simp;(try with_reducible rfl))
      (try simp only[zqa,zqb,zqc,Act.put,zqd,zqe,zqf])
      refine zqt (i:=5) (v:=?_) rfl (by kernel_rfl) (fun _ _ _ h=>h) (Or.inl ⟨by rfl,?_⟩) hHeld ?_
      rotate_left
      · (intro w hSw;(try dsimp only at hSw);go_simp;(try with_reducible rfl))
      (try simp only[zqa,zqb,zqc,Act.put,zqd,zqe,zqf])
      refine wpAnyH_ready (rs:=[6,7]) (by kernel_rfl) (by simp) ?_
      refine AllReadyH.cons (o:=_) rfl (fun K hK=>?_) (AllReadyH.cons (o:=_) rfl (fun K hK=>?_) AllReadyH.nil)
      focus (
       go_simp
       (go_at_call 18;refine (NS.out _ _ _ _ T.out TQ.out).mono ?_;rintro e w6 ⟨rfl,hb⟩)
       have qq:=zH (TQ.out.below hb)
       clear hb
       refine hK.out _ _ ?_ (fun hHeld=>?_)
       · (try dsimp only);exact HK.out _ _ _ _ HBW.out qq.out
       clear hK K
       (try simp only[zqa,zqb,zqc,Act.put,zqd,zqe,zqf])
       refine wpAnyH_ready (rs:=[7]) (by kernel_rfl) (by simp) ?_
       refine AllReadyH.cons (o:=_) rfl (fun K hK=>?_) AllReadyH.nil
       go_simp
       have qa:=zH (qq.out.alloc (.cells #[.bool false,.bool false,.bool false,zi 0,zi 0,zi 0,zu 0,zu 0,zi 0] 38))
       have ha:=zH ((Below.refl _ w6).alloc (Nat.le_refl _) (.cells #[.bool false,.bool false,.bool false,zi 0,zi 0,zi 0,zu 0,zu 0,zi 0] 38))
       refine hK.out _ _ ?_ (fun hHeld=>?_)
       · (try dsimp only);exact HK.out _ _ _ _ HBW.out qa.out
       clear hK K
       (try simp only[zqa,zqb,zqc,Act.put,zqd,zqe,zqf])
       refine wpAnyH_ready (rs:=[8]) (by kernel_rfl) (by simp) ?_
       refine AllReadyH.cons (o:=_) rfl (fun K hK=>?_) AllReadyH.nil
       rw[if_pos (by rfl)]
       have ho:=qa.out.obj List.mem_cons_self
       refine wp_store_row 38 (.tmp 7) (.tmp 39) rfl w6.heap.size #[.bool lv,.bool bz,.bool wt,zi a1,zi a2,zi a3,zu a4,zu a5,zi ops] rfl rfl 38 #[.bool false,.bool false,.bool false,zi 0,zi 0,zi 0,zu 0,zu 0,zi 0] ho (by kernel_rfl) rfl (by simp[Value.oneCell']) ?_
       have T2:=zH (qq.out.belowObj (below_setRow ha.out (Nat.le_refl _) #[.bool lv,.bool bz,.bool wt,zi a1,zi a2,zi a3,zu a4,zu a5,zi ops]) (Nat.le_refl _) (setRow_heap _ _ _ #[.bool lv,.bool bz,.bool wt,zi a1,zi a2,zi a3,zu a4,zu a5,zi ops] _ _ ho))
       generalize World.setRow _ _ _=w9 at*
       generalize w6.heap.size=g1 at*
       clear ho ha qa qq hHeld
       refine hK.out _ _ ?_ (fun hHeld=>?_)
       · (try dsimp only);exact HK.out _ _ _ _ HBW.out T2.out
       clear hK K
       (try simp only[zqa,zqb,zqc,Act.put,zqd,zqe,zqf])
       refine wpAnyH_done (by kernel_rfl) ?_ _
       clear hHeld
      )
      rotate_left
      focus (
       go_simp
       have qa:=zH (TQ.out.alloc (.cells #[.bool false,.bool false,.bool false,zi 0,zi 0,zi 0,zu 0,zu 0,zi 0] 38))
       have ha:=zH ((Below.refl _ vd).alloc (Nat.le_refl _) (.cells #[.bool false,.bool false,.bool false,zi 0,zi 0,zi 0,zu 0,zu 0,zi 0] 38))
       refine hK.out _ _ ?_ (fun hHeld=>?_)
       · (try dsimp only);exact HK.out _ _ _ _ HBW.out qa.out
       clear hK K
       (try simp only[zqa,zqb,zqc,Act.put,zqd,zqe,zqf])
       refine wpAnyH_ready (rs:=[6]) (by kernel_rfl) (by simp) ?_
       refine AllReadyH.cons (o:=_) rfl (fun K hK=>?_) AllReadyH.nil
       go_simp
       (go_at_call 18;refine (NS.out _ _ _ _ T.out qa.out).mono ?_;rintro e w6 ⟨rfl,hb⟩)
       have qq:=zH (qa.out.below hb)
       have ha2:=zH (ha.out.trans (hb.mono (by simp)))
       clear hb ha qa
       refine hK.out _ _ ?_ (fun hHeld=>?_)
       · (try dsimp only);exact HK.out _ _ _ _ HBW.out qq.out
       clear hK K
       (try simp only[zqa,zqb,zqc,Act.put,zqd,zqe,zqf])
       refine wpAnyH_ready (rs:=[8]) (by kernel_rfl) (by simp) ?_
       refine AllReadyH.cons (o:=_) rfl (fun K hK=>?_) AllReadyH.nil
       rw[if_pos (by rfl)]
       have ho:=qq.out.obj List.mem_cons_self
       refine wp_store_row 38 (.tmp 7) (.tmp 39) rfl vd.heap.size #[.bool lv,.bool bz,.bool wt,zi a1,zi a2,zi a3,zu a4,zu a5,zi ops] rfl rfl 38 #[.bool false,.bool false,.bool false,zi 0,zi 0,zi 0,zu 0,zu 0,zi 0] ho (by kernel_rfl) rfl (by simp[Value.oneCell']) ?_
       have T2:=zH (TQ.out.belowObj (below_setRow ha2.out (Nat.le_refl _) #[.bool lv,.bool bz,.bool wt,zi a1,zi a2,zi a3,zu a4,zu a5,zi ops]) (Nat.le_refl _) (setRow_heap _ _ _ #[.bool lv,.bool bz,.bool wt,zi a1,zi a2,zi a3,zu a4,zu a5,zi ops] _ _ ho))
       generalize World.setRow _ _ _=w9 at*
       generalize vd.heap.size=g1 at*
       clear ho ha2 qq hHeld
       refine hK.out _ _ ?_ (fun hHeld=>?_)
       · (try dsimp only);exact HK.out _ _ _ _ HBW.out T2.out
       clear hK K
       (try simp only[zqa,zqb,zqc,Act.put,zqd,zqe,zqf])
       refine wpAnyH_done (by kernel_rfl) ?_ _
       clear hHeld
      )
      rotate_left
      all_goals (go_wp2_with fail;go_meet;exact⟨g1,rfl,T2.out⟩)
     case rest=>
      obtain⟨g1,rfl,q⟩:=hcut
      have y0:=C.out _ _ _ _ HBW.out q
      have TQ1:=zH q.drew
      clear q x0 p0 p1 p2 p3 p4 p5 p6 TQ
      go_upto_region 10 with fail
      go_region_held3 (fun w'=>w'.cell? ⟨bw,0,none⟩=some (.pointer (some ⟨be,0,none⟩)))
       (first|exact y0|assumption|go_keep|exact C.out _ _ _ _ HBW.out (by assumption))
       (first|(go_at_call 27;refine (NN.out _ _ _ _ T.out TQ1.out).mono ?_;rintro e w2 ⟨rfl,q2⟩)|(go_at_call 28;refine (NU.out _ _ _ _ T.out q2).mono ?_;rintro e w3 ⟨rfl,q3⟩)|(go_at_call 29;refine (NL.out _ _ _ _ T.out.list q3).mono ?_;rintro e w4 ⟨rfl,rfl⟩)|(go_at_call 31;refine (NT.out _ _ _ _ T.out.list q3).mono ?_;rintro e w5 ⟨aa,cc,rfl,hb⟩;have q5:=q3.below hb))
      clear y0
      go_upto_region 12 with fail
      obtain⟨p0,p1,p2,p3,p4,p5,p6⟩:=HP.out _ q5.toBelow
      have x0:=C.out _ _ _ _ HBW.out q5
      have HK5:Hid (∀ W w',WK B' be w0 (.obj g1 (.cells #[.bool lv,.bool bz,.bool wt,zi a1,zi a2,zi a3,zu a4,zu a5,zi ops] 38)::ks) W w'→w'.cell? ⟨bw,0,none⟩=some (.pointer (some ⟨be,0,none⟩))∧w'.cell? ⟨g0,0,none⟩=some (zi kd)∧w'.cell? ⟨g0,1,none⟩=some (zi s)∧w'.cell? ⟨g0,2,none⟩=some (zi l)∧w'.cell? ⟨g0,3,none⟩=some (zi k)∧w'.cell? ⟨g0,4,none⟩=some (zi key)∧w'.cell? ⟨g0,5,none⟩=some (zi hi)∧w'.cell? ⟨g0,6,none⟩=some (zi v)):=fun W w' q=>⟨C.out _ _ _ _ HBW.out q,HP.out _ q.toBelow⟩
      have TQ5:=zH q5.drew
      clear q5
      by_cases k0:kd=0
      · subst k0
        obtain⟨id,er,σ1,h1,h2⟩:=WW.eBegin (HQ.out.1.list) (by have:=HM.out;omega) (by have:=HM.out.1;show W.σ.list.made<_;rw[(Cw.list_txns W.σ).2.2.2.2.2.1];exact this) s l
        have HC:=zH (h2 _ _ _ _ _ TQ5.out)
        clear h2
        go_upto_region 15 with fail
        go_region_held3 (fun w'=>w'.cell? ⟨bw,0,none⟩=some (.pointer (some ⟨be,0,none⟩))∧w'.cell? ⟨g0,1,none⟩=some (zi s)∧w'.cell? ⟨g0,2,none⟩=some (zi l))
         (first|exact⟨x0,p1,p2⟩|assumption|go_keep|(obtain⟨r0,r1,r2,r3,r4,r5,r6,r7⟩:=HK5.out _ _ (by assumption);exact⟨r0,r2,r3⟩))
         (first|(go_at_call 41;refine HC.out.mono ?_;rintro e w6 ⟨rfl,q6⟩))
        clear x0 p0 p1 p2 p3 p4 p5 p6
        rcases h1 with rfl|⟨h1,h2,h3⟩
        · clear HS
          go_wp2_with (go_at_call 20;refine (HA.out _).mono ?_;rintro e w11 ⟨rfl,hb3⟩;have q11:=q6.below hb3)
          go_ret
          exact⟨rfl,by rw[HG0.out];exact HB0.out _ q11.toBelow⟩
        · have e1:(er==0)=false:=by simpa using h1
          have e2:(er !=0)=true:=by simpa using h1
          have e3:(er=0)=False:=by simpa using h1
          have TB:Hid (ETold σ σ1):=⟨⟨3*m,Nat.le_of_lt HM.out.2,h2⟩,(T.out.list.2).trans h3⟩
          have HK6:Hid (∀ W w',WK B' be w0 (.obj g1 (.cells #[.bool lv,.bool bz,.bool wt,zi a1,zi a2,zi a3,zu a4,zu a5,zi ops] 38)::ks) W w'→w'.cell? ⟨bw,0,none⟩=some (.pointer (some ⟨be,0,none⟩))∧w'.cell? ⟨g0,1,none⟩=some (zi s)∧w'.cell? ⟨g1,0,none⟩=some (.bool lv)∧w'.cell? ⟨g1,1,none⟩=some (.bool bz)∧w'.cell? ⟨g1,2,none⟩=some (.bool wt)∧w'.cell? ⟨g1,3,none⟩=some (zi a1)∧w'.cell? ⟨g1,4,none⟩=some (zi a2)∧w'.cell? ⟨g1,5,none⟩=some (zi a3)∧w'.cell? ⟨g1,6,none⟩=some (zu a4)∧w'.cell? ⟨g1,7,none⟩=some (zu a5)∧w'.cell? ⟨g1,8,none⟩=some (zi ops)):=fun W w' q=>⟨C.out _ _ _ _ HBW.out q,(HP.out _ q.toBelow).2.1,HS.out _ _ _ _ _ q⟩
          obtain⟨z0,z1,z2,z3,z4,z5,z6,z7,z8,z9,z10⟩:=HK6.out _ _ q6
          have TQ6:=zH q6.drew
          clear h1 h2 h3 q6 HK5 TQ5 T
          go_upto_region 20 with fail
          go_region_held3 (fun w'=>w'.cell? ⟨bw,0,none⟩=some (.pointer (some ⟨be,0,none⟩))∧w'.cell? ⟨g0,1,none⟩=some (zi s)∧w'.cell? ⟨g1,0,none⟩=some (.bool lv)∧w'.cell? ⟨g1,1,none⟩=some (.bool bz)∧w'.cell? ⟨g1,2,none⟩=some (.bool wt)∧w'.cell? ⟨g1,3,none⟩=some (zi a1)∧w'.cell? ⟨g1,4,none⟩=some (zi a2)∧w'.cell? ⟨g1,5,none⟩=some (zi a3)∧w'.cell? ⟨g1,6,none⟩=some (zu a4)∧w'.cell? ⟨g1,7,none⟩=some (zu a5)∧w'.cell? ⟨g1,8,none⟩=some (zi ops))
           (first|exact⟨z0,z1,z2,z3,z4,z5,z6,z7,z8,z9,z10⟩|assumption|go_keep|exact HK6.out _ _ (by assumption))
           (first|(go_at_call 18;refine (NS.out _ _ _ _ TB.out TQ6.out).mono ?_;rintro e w7 ⟨rfl,hb⟩;have q7:=TQ6.out.below hb)|(go_at_call 27;refine (NN.out _ _ _ _ TB.out q7).mono ?_;rintro e w8 ⟨rfl,q8⟩)|(go_at_call 28;refine (NU.out _ _ _ _ TB.out q8).mono ?_;rintro e w9 ⟨rfl,q9⟩)|(go_at_call 29;refine (NL.out _ _ _ _ TB.out.list q9).mono ?_;rintro e w4 ⟨rfl,rfl⟩)|(go_at_call 31;refine (NT.out _ _ _ _ TB.out.list q9).mono ?_;rintro e w5 ⟨aa2,cc2,rfl,hb2⟩;have q10:=q9.below hb2)|(go_at_call 20;refine (HA.out _).mono ?_;rintro e w11 ⟨rfl,hb3⟩;have q11:=q10.below hb3))
          go_wp2_with fail
          go_ret
          exact⟨rfl,by rw[HG0.out];exact HB0.out _ q11.toBelow⟩
      · by_cases k1:kd=1
        · subst k1
          clear k0
          obtain⟨er,σ1,h1,h2⟩:=WW.eIssue (HQ.out.1.list) (by have:=HM.out;omega) s k key hi v
          have HC:=zH (h2 _ _ _ _ _ TQ5.out)
          clear h2
          go_upto_region 17 with fail
          go_region_held3 (fun w'=>w'.cell? ⟨bw,0,none⟩=some (.pointer (some ⟨be,0,none⟩))∧w'.cell? ⟨g0,1,none⟩=some (zi s)∧w'.cell? ⟨g0,3,none⟩=some (zi k)∧w'.cell? ⟨g0,4,none⟩=some (zi key)∧w'.cell? ⟨g0,5,none⟩=some (zi hi)∧w'.cell? ⟨g0,6,none⟩=some (zi v))
           (first|exact⟨x0,p1,p3,p4,p5,p6⟩|assumption|go_keep|(obtain⟨r0,r1,r2,r3,r4,r5,r6,r7⟩:=HK5.out _ _ (by assumption);exact⟨r0,r2,r4,r5,r6,r7⟩))
           (first|(go_at_call 17;refine HC.out.mono ?_;rintro e w6 ⟨rfl,q6⟩))
          clear x0 p0 p1 p2 p3 p4 p5 p6
          rcases h1 with rfl|⟨h1,h2,h3⟩
          · clear HS
            go_wp2_with (go_at_call 20;refine (HA.out _).mono ?_;rintro e w11 ⟨rfl,hb3⟩;have q11:=q6.below hb3)
            go_ret
            exact⟨rfl,by rw[HG0.out];exact HB0.out _ q11.toBelow⟩
          · have e1:(er==0)=false:=by simpa using h1
            have e2:(er !=0)=true:=by simpa using h1
            have e3:(er=0)=False:=by simpa using h1
            have TB:Hid (ETold σ σ1):=⟨⟨3*m,Nat.le_of_lt HM.out.2,h2⟩,(T.out.list.2).trans h3⟩
            have HK6:Hid (∀ W w',WK B' be w0 (.obj g1 (.cells #[.bool lv,.bool bz,.bool wt,zi a1,zi a2,zi a3,zu a4,zu a5,zi ops] 38)::ks) W w'→w'.cell? ⟨bw,0,none⟩=some (.pointer (some ⟨be,0,none⟩))∧w'.cell? ⟨g0,1,none⟩=some (zi s)∧w'.cell? ⟨g1,0,none⟩=some (.bool lv)∧w'.cell? ⟨g1,1,none⟩=some (.bool bz)∧w'.cell? ⟨g1,2,none⟩=some (.bool wt)∧w'.cell? ⟨g1,3,none⟩=some (zi a1)∧w'.cell? ⟨g1,4,none⟩=some (zi a2)∧w'.cell? ⟨g1,5,none⟩=some (zi a3)∧w'.cell? ⟨g1,6,none⟩=some (zu a4)∧w'.cell? ⟨g1,7,none⟩=some (zu a5)∧w'.cell? ⟨g1,8,none⟩=some (zi ops)):=fun W w' q=>⟨C.out _ _ _ _ HBW.out q,(HP.out _ q.toBelow).2.1,HS.out _ _ _ _ _ q⟩
            obtain⟨z0,z1,z2,z3,z4,z5,z6,z7,z8,z9,z10⟩:=HK6.out _ _ q6
            have TQ6:=zH q6.drew
            clear h1 h2 h3 q6 HK5 TQ5 T
            go_upto_region 20 with fail
            go_region_held3 (fun w'=>w'.cell? ⟨bw,0,none⟩=some (.pointer (some ⟨be,0,none⟩))∧w'.cell? ⟨g0,1,none⟩=some (zi s)∧w'.cell? ⟨g1,0,none⟩=some (.bool lv)∧w'.cell? ⟨g1,1,none⟩=some (.bool bz)∧w'.cell? ⟨g1,2,none⟩=some (.bool wt)∧w'.cell? ⟨g1,3,none⟩=some (zi a1)∧w'.cell? ⟨g1,4,none⟩=some (zi a2)∧w'.cell? ⟨g1,5,none⟩=some (zi a3)∧w'.cell? ⟨g1,6,none⟩=some (zu a4)∧w'.cell? ⟨g1,7,none⟩=some (zu a5)∧w'.cell? ⟨g1,8,none⟩=some (zi ops))
             (first|exact⟨z0,z1,z2,z3,z4,z5,z6,z7,z8,z9,z10⟩|assumption|go_keep|exact HK6.out _ _ (by assumption))
             (first|(go_at_call 18;refine (NS.out _ _ _ _ TB.out TQ6.out).mono ?_;rintro e w7 ⟨rfl,hb⟩;have q7:=TQ6.out.below hb)|(go_at_call 27;refine (NN.out _ _ _ _ TB.out q7).mono ?_;rintro e w8 ⟨rfl,q8⟩)|(go_at_call 28;refine (NU.out _ _ _ _ TB.out q8).mono ?_;rintro e w9 ⟨rfl,q9⟩)|(go_at_call 29;refine (NL.out _ _ _ _ TB.out.list q9).mono ?_;rintro e w4 ⟨rfl,rfl⟩)|(go_at_call 31;refine (NT.out _ _ _ _ TB.out.list q9).mono ?_;rintro e w5 ⟨aa2,cc2,rfl,hb2⟩;have q10:=q9.below hb2)|(go_at_call 20;refine (HA.out _).mono ?_;rintro e w11 ⟨rfl,hb3⟩;have q11:=q10.below hb3))
            go_wp2_with fail
            go_ret
            exact⟨rfl,by rw[HG0.out];exact HB0.out _ q11.toBelow⟩
        · have f0:(kd==0)=false:=by simpa using k0
          have f1:(kd==1)=false:=by simpa using k1
          have e0:(kd=0)=False:=by simpa using k0
          have e1':(kd=1)=False:=by simpa using k1
          clear k0 k1
          obtain⟨er,σ1,h1,h2⟩:=WW.eStep (HQ.out.1.list) (by have:=HM.out;omega) s
          have HC:=zH (h2 _ _ _ _ _ TQ5.out)
          clear h2
          go_upto_region 13 with fail
          go_region_held3 (fun w'=>w'.cell? ⟨bw,0,none⟩=some (.pointer (some ⟨be,0,none⟩))∧w'.cell? ⟨g0,1,none⟩=some (zi s))
           (first|exact⟨x0,p1⟩|assumption|go_keep|(obtain⟨r0,r1,r2,r3,r4,r5,r6,r7⟩:=HK5.out _ _ (by assumption);exact⟨r0,r2⟩))
           (first|(go_at_call 19;refine HC.out.mono ?_;rintro e w6 ⟨dd,rfl,q6⟩))
          clear x0 p0 p1 p2 p3 p4 p5 p6
          rcases h1 with rfl|⟨h1,h2,h3⟩
          · clear HS
            go_wp2_with (go_at_call 20;refine (HA.out _).mono ?_;rintro e w11 ⟨rfl,hb3⟩;have q11:=q6.below hb3)
            go_ret
            exact⟨rfl,by rw[HG0.out];exact HB0.out _ q11.toBelow⟩
          · have e1:(er==0)=false:=by simpa using h1
            have e2:(er !=0)=true:=by simpa using h1
            have e3:(er=0)=False:=by simpa using h1
            have TB:Hid (ETold σ σ1):=⟨⟨3*m,Nat.le_of_lt HM.out.2,h2⟩,(T.out.list.2).trans h3⟩
            have HK6:Hid (∀ W w',WK B' be w0 (.obj g1 (.cells #[.bool lv,.bool bz,.bool wt,zi a1,zi a2,zi a3,zu a4,zu a5,zi ops] 38)::ks) W w'→w'.cell? ⟨bw,0,none⟩=some (.pointer (some ⟨be,0,none⟩))∧w'.cell? ⟨g0,1,none⟩=some (zi s)∧w'.cell? ⟨g1,0,none⟩=some (.bool lv)∧w'.cell? ⟨g1,1,none⟩=some (.bool bz)∧w'.cell? ⟨g1,2,none⟩=some (.bool wt)∧w'.cell? ⟨g1,3,none⟩=some (zi a1)∧w'.cell? ⟨g1,4,none⟩=some (zi a2)∧w'.cell? ⟨g1,5,none⟩=some (zi a3)∧w'.cell? ⟨g1,6,none⟩=some (zu a4)∧w'.cell? ⟨g1,7,none⟩=some (zu a5)∧w'.cell? ⟨g1,8,none⟩=some (zi ops)):=fun W w' q=>⟨C.out _ _ _ _ HBW.out q,(HP.out _ q.toBelow).2.1,HS.out _ _ _ _ _ q⟩
            obtain⟨z0,z1,z2,z3,z4,z5,z6,z7,z8,z9,z10⟩:=HK6.out _ _ q6
            have TQ6:=zH q6.drew
            clear h1 h2 h3 q6 HK5 TQ5 T
            go_upto_region 20 with fail
            go_region_held3 (fun w'=>w'.cell? ⟨bw,0,none⟩=some (.pointer (some ⟨be,0,none⟩))∧w'.cell? ⟨g0,1,none⟩=some (zi s)∧w'.cell? ⟨g1,0,none⟩=some (.bool lv)∧w'.cell? ⟨g1,1,none⟩=some (.bool bz)∧w'.cell? ⟨g1,2,none⟩=some (.bool wt)∧w'.cell? ⟨g1,3,none⟩=some (zi a1)∧w'.cell? ⟨g1,4,none⟩=some (zi a2)∧w'.cell? ⟨g1,5,none⟩=some (zi a3)∧w'.cell? ⟨g1,6,none⟩=some (zu a4)∧w'.cell? ⟨g1,7,none⟩=some (zu a5)∧w'.cell? ⟨g1,8,none⟩=some (zi ops))
             (first|exact⟨z0,z1,z2,z3,z4,z5,z6,z7,z8,z9,z10⟩|assumption|go_keep|exact HK6.out _ _ (by assumption))
             (first|(go_at_call 18;refine (NS.out _ _ _ _ TB.out TQ6.out).mono ?_;rintro e w7 ⟨rfl,hb⟩;have q7:=TQ6.out.below hb)|(go_at_call 27;refine (NN.out _ _ _ _ TB.out q7).mono ?_;rintro e w8 ⟨rfl,q8⟩)|(go_at_call 28;refine (NU.out _ _ _ _ TB.out q8).mono ?_;rintro e w9 ⟨rfl,q9⟩)|(go_at_call 29;refine (NL.out _ _ _ _ TB.out.list q9).mono ?_;rintro e w4 ⟨rfl,rfl⟩)|(go_at_call 31;refine (NT.out _ _ _ _ TB.out.list q9).mono ?_;rintro e w5 ⟨aa2,cc2,rfl,hb2⟩;have q10:=q9.below hb2)|(go_at_call 20;refine (HA.out _).mono ?_;rintro e w11 ⟨rfl,hb3⟩;have q11:=q10.below hb3))
            go_wp2_with fail
            go_ret
            exact⟨rfl,by rw[HG0.out];exact HB0.out _ q11.toBelow⟩)
end Go.Proofs.YtbefcdjcefmicaaGreat.Em
