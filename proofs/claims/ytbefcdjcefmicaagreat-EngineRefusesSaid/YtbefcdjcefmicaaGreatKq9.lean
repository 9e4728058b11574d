import Derived.Test.YtbefcdjcefmicaaGreatKq8
import Derived.Laws.EntriesVeiled
import Derived.Laws.LoneSync
namespace Go.Proofs.YtbefcdjcefmicaaGreat.Em
open Go.ChangeShapes Go.WideShapes Go.ChangeAt Go.RowKit En
set_option linter.unusedVariables false
set_option linter.unusedSimpArgs false
set_option maxRecDepth 100000
set_option maxHeartbeats 1600000
theorem wait_any {A:Book} {σ:St} {w:World} (hR:Rep A σ w) (s:Nat) (t:Txn) (ht:σ.txns.getD s none=some t) (i:Nat):
 Calls Tryz.prog 141 #[.pointer (some ⟨A.be,0,none⟩),.pointer (some ⟨A.bt s,0,none⟩),.pointer (some ⟨A.bc s,0,none⟩),zi (i:Int)] w (Tells A w s (σ,waitK t i)):=by
 obtain⟨r4,g4,f0,f1,f2,f3⟩:=allocs4 hR #[.pointer (some ⟨A.be,0,none⟩)] 27 #[.pointer (some ⟨A.bt s,0,none⟩)] 102 #[.pointer (some ⟨A.bc s,0,none⟩)] 107 #[zi (i:Int)] 3;have c0:=f0.cell 0 (v:=.pointer (some ⟨A.be,0,none⟩)) rfl;have c1:=f1.cell 0 (v:=.pointer (some ⟨A.bt s,0,none⟩)) rfl;have c2:=f2.cell 0 (v:=.pointer (some ⟨A.bc s,0,none⟩)) rfl;have c3:=f3.cell 0 (v:=zi (i:Int)) rfl;have t9:=r4.txn ht 9 (v:=A.vbonds s) rfl;have hown:=(r4.mem.all (.bonds s))
 rw[mem_bonds ht] at hown;obtain⟨av,capv,hv,_⟩:=Ow.own_form hown.1;rw[hv] at t9;have HR:=zH (zA r4 (zA g4 (zA f0 (zA f1 (zA f2 f3)))));clear hR ht r4 g4 f0 f1 f2 f3 hown hv;unfold waitK;generalize t.bonds.length=n at*
 by_cases hi:i=n
 · rw[if_pos hi]
   have d1:((i:Int)==(n:Int))=true:=by simp;omega
   have d2:(i==n)=true:=by simp;omega
   have d3:((i:Int)=(n:Int))=True:=by simp;omega
   clear hi;go_enter Tryz.func141,Tryz.ntmps141;go_wp2_with fail;generalize (((w.alloc _).alloc _).alloc _).alloc _=w4 at*
   go_quiet (fail)
   go_wp2_with (go_at_call 162;refine (commit_any (HR.out.1.drewN _) s).mono ?_;rintro e w2 ⟨A2,v,rfl,p1,p2,p3,p4⟩);go_ret;exact⟨A2,v,rfl,p1,(HR.out.2.1.trans (Grow.drewN _ _ _)).trans p2,p3,p4⟩
 · rw[if_neg hi]
   have d1:((i:Int)==(n:Int))=false:=by simp;omega
   have d2:(i==n)=false:=by simp;omega
   have d3:((i:Int)=(n:Int))=False:=by simp;omega
   clear hi;go_enter Tryz.func141,Tryz.ntmps141;go_wp2_with fail;generalize hw4:(((w.alloc _).alloc _).alloc _).alloc _=w4 at*;have hz:w4.heap.size=w.heap.size+1+1+1+1:=by rw[←hw4];simp
   have HZ:=zH hz;clear hz hw4
   go_quiet (fail)
   generalize hw:w4.drewN _=w5;obtain⟨r,g,f0,f1,f2,f3⟩:=HR.out;have g5:Grow A.L w4 A.L w5:=by rw[←hw];exact Grow.drewN _ _ _
   have r5:Rep A σ w5:=by rw[←hw];exact r.drewN _
   obtain⟨r6,g6,f4⟩:=allocs1 r5 #[.func (.func 163) #[] #[.pointer (some ⟨w.heap.size,0,none⟩),.pointer (some ⟨w.heap.size+1,0,none⟩),.pointer (some ⟨w.heap.size+1+1+1,0,none⟩),.pointer (some ⟨w.heap.size+1+1,0,none⟩),.pointer (some ⟨w5.heap.size,0,none⟩)]] 131;have gg:=g5.trans g6;have HQ:=zH (zA r6 (zA (g.trans gg) (zA (f0.grow gg) (zA (f1.grow gg) (zA (f3.grow gg) (zA (f2.grow gg) f4))))));clear r g f0 f1 f2 f3 g5 r5 r6 g6 f4 gg hw;go_wp2_with fail;go_ret;obtain⟨q1,q2,q3,q4,q5,q6,q7⟩:=HQ.out;exact⟨A,_,rfl,q1,q2,Stay.refl _ _,_,_,_,_,_,rfl,q3.box,q4.box,q5.box,q6.box,q7.box⟩
theorem disable (w:World):(callFunc 213 #[]).run Tryz.prog w=.ok (.value (.tuple #[])) w:=run_call_mark0 Tryz.func213 (by kernel_rfl) (by kernel_rfl) (by kernel_rfl) .disable (by kernel_rfl) w
theorem enable (w:World):(callFunc 215 #[]).run Tryz.prog w=.ok (.value (.tuple #[])) w:=run_call_mark0 Tryz.func215 (by kernel_rfl) (by kernel_rfl) (by kernel_rfl) .enable (by kernel_rfl) w
theorem acquire (a:Addr) (w:World):(callFunc 216 #[.pointer (some a)]).run Tryz.prog w=.ok (.value (.tuple #[])) w:=run_call_marked Tryz.func216 (by kernel_rfl) (by kernel_rfl) (by kernel_rfl) .acquire (by kernel_rfl) a w
theorem releaseMerge (a:Addr) (w:World):(callFunc 218 #[.pointer (some a)]).run Tryz.prog w=.ok (.value (.tuple #[])) w:=run_call_marked Tryz.func218 (by kernel_rfl) (by kernel_rfl) (by kernel_rfl) .releaseMerge (by kernel_rfl) a w
theorem store_deferred (a:Addr) (x:Value) (u:FrameMode) (w:World) (hc:w.cell? a=some x) (hz:w.frozen? a=false):
 CallsD Tryz.prog 187 #[.pointer (some a),.bool true] u w fun e u' w'=>u'=u∧(e=.returned (.tuple #[])∧w'=w.drew.setCell a (.int .u32 1)):=by
 have hc':w.drew.cell? a=some x:=by go_simp
 have hz':w.drew.frozen? a=false:=by go_simp
 have hst:=run_call_store (P:=Tryz.prog) Tryz.func202 (by kernel_rfl) (by kernel_rfl) (by kernel_rfl) (by kernel_rfl) (k:=.u32) (y:=1) hc' hz'
 go_enter_d Tryz.func187,Tryz.ntmps187
 go_wp2
 go_region_calls
 all_goals (go_end0;exact⟨rfl,rfl⟩)
theorem unlock_deferred (a:Addr) (u:FrameMode) (w:World) (hc:w.cell? a=some (.int .i32 1)) (hz:w.frozen? a=false):
 CallsD Tryz.prog 186 #[.pointer (some a)] u w fun e u' w'=>u'=u∧(e=.returned (.tuple #[])∧w'=w.setCell a (.int .i32 0)):=by
 have hd:=disable;have he:=enable;have hr:=releaseMerge;have hadd:=run_call_add (P:=Tryz.prog) Tryz.func219 (by kernel_rfl) (by kernel_rfl) (by kernel_rfl) .i32 (by kernel_rfl) (y:=-1) (s:=0) hc hz (by simp[go_sem];rfl);have hcv:=run_convert_to_unsafe (P:=Tryz.prog) (src:=273) (dst:=277) Tryz.underlying273 Tryz.underlying277 (by kernel_rfl) hc
 go_enter_d Tryz.func186,Tryz.ntmps186
 go_wp2
 go_end0
 go_wp2
 go_end0
 exact⟨rfl,rfl⟩
theorem lock_free (a:Addr) (w:World) (hc:w.cell? a=some (.int .i32 0)) (hz:w.frozen? a=false):
 Calls Tryz.prog 185 #[.pointer (some a)] w fun e w'=>e=.returned (.tuple #[])∧w'=w.setCell a (.int .i32 1):=by
 have hd:=disable;have he:=enable;have ha:=acquire;have hcas:=run_call_cas_hit (P:=Tryz.prog) Tryz.func214 (by kernel_rfl) (by kernel_rfl) (by kernel_rfl) .i32 (by kernel_rfl) (y:=1) hc hz;have hc':(w.setCell a (.int .i32 1)).cell? a=some (.int .i32 1):=World.cell?_setCell_same w a _ hc;have hcv:=run_convert_to_unsafe (P:=Tryz.prog) (src:=273) (dst:=277) Tryz.underlying273 Tryz.underlying277 (by kernel_rfl) hc';go_enter Tryz.func185,Tryz.ntmps185;go_wp2
 first|go_end0|(simp only[Exit.inBlock,Exit.then];refine bodyPost_ret (results_none rfl _ _ _) rfl ?_)|refine bodyPost_ret (results_none rfl _ _ _) rfl ?_
 go_wp2
 go_end0
 exact⟨rfl,rfl⟩
structure Held (b off:Nat) (w:World):Prop where
 d:w.cell? ⟨b,off,none⟩=some (.int .u32 0)
 m:w.cell? ⟨b,off+1,none⟩=some (.int .i32 1)
 zd:w.frozen? ⟨b,off,none⟩=false
 zm:w.frozen? ⟨b,off+1,none⟩=false
def onceEnd (b off:Nat) (w:World):World:=(w.drew.setCell ⟨b,off,none⟩ (.int .u32 1)).setCell ⟨b,off+1,none⟩ (.int .i32 0)
theorem slow_any (b off fc:Nat) (caps:Array Value) (w:World) (Q:World→Prop) (h0:w.cell? ⟨b,off,none⟩=some (.int .u32 0)) (h1:w.cell? ⟨b,off+1,none⟩=some (.int .i32 0))
 (f0:w.frozen? ⟨b,off,none⟩=false) (f1:w.frozen? ⟨b,off+1,none⟩=false)
 (he:∀ w,(callFunc fc caps).run Tryz.prog w=.ok (.enter fc caps) w)
 (hf:Calls Tryz.prog fc caps (w.setCell ⟨b,off+1,none⟩ (.int .i32 1)) fun e w'=>e=.returned (.tuple #[])∧Q w') (hq:∀ w',Q w'→Held b off w'):
 Calls Tryz.prog 165 #[.pointer (some ⟨b,off,none⟩),.func (.func fc) #[] caps] w fun e w'=>e=.returned (.tuple #[])∧∃ w2,Q w2∧w'=onceEnd b off w2:=by
 have hl:=run_call_load (P:=Tryz.prog) Tryz.func184 (by kernel_rfl) (by kernel_rfl) (by kernel_rfl) .u32 (by kernel_rfl) (w:=w.setCell ⟨b,off+1,none⟩ (.int .i32 1)) (a:=⟨b,off,none⟩) (x:=0) ((World.cell?_setCell_other _ ⟨b,off+1,none⟩ ⟨b,off,none⟩ _ (by simp)).trans h0);have hnot:∀ (x:Bool) (w:World),(Op.unary .not (.bool x)).run Tryz.prog w=.ok (.bool (!x)) w:=fun _ _=>rfl
 have HF:=zH hf;have HQ:=zH hq;clear hf hq
 go_enter_defers Tryz.func165,Tryz.ntmps165
 go_wp2_with (first|(go_at_call 185;refine (lock_free ⟨b,off+1,none⟩ _ (by go_simp) (by go_simp)).mono ?_;rintro e w' ⟨rfl,rfl⟩)|(go_at_call 164;go_in));refine HF.out.mono ?_;rintro e w2 ⟨rfl,hw2⟩;go_wp2;refine leaves_cons (f:=187) (args:=#[.pointer (some ⟨b,off,none⟩),.bool true]) (by simp) (by simp[go_sem]) ?_;have HH:=HQ.out w2 hw2;refine (store_deferred ⟨b,off,none⟩ (.int .u32 0) .returning _ HH.d HH.zd).mono ?_;rintro e u' w'' ⟨rfl,rfl,rfl⟩;refine leaves_cons (f:=186) (args:=#[.pointer (some ⟨b,off+1,none⟩)]) (by simp[settle]) (by simp[go_sem]) ?_;refine (unlock_deferred ⟨b,off+1,none⟩ _ _ ?_ ?_).mono ?_
 · refine (World.cell?_setCell_other _ ⟨b,off,none⟩ ⟨b,off+1,none⟩ _ (by simp)).trans ?_
   rw[World.cell?_drew];exact HH.m
 · simp[HH.zm]
 rintro e u' w'' ⟨rfl,rfl,rfl⟩;simp[Leaves,settle,results,Tryz.results165];exact⟨w2,hw2,rfl⟩
theorem do_first (b off fc:Nat) (caps:Array Value) (w:World) (Q:World→Prop) (h0:w.cell? ⟨b,off,none⟩=some (.int .u32 0)) (h1:w.cell? ⟨b,off+1,none⟩=some (.int .i32 0))
 (f0:w.frozen? ⟨b,off,none⟩=false) (f1:w.frozen? ⟨b,off+1,none⟩=false)
 (he:∀ w,(callFunc fc caps).run Tryz.prog w=.ok (.enter fc caps) w)
 (hf:Calls Tryz.prog fc caps (w.setCell ⟨b,off+1,none⟩ (.int .i32 1)) fun e w'=>e=.returned (.tuple #[])∧Q w') (hq:∀ w',Q w'→Held b off w'):
 Calls Tryz.prog 143 #[.pointer (some ⟨b,off,none⟩),.func (.func fc) #[] caps] w fun e w'=>e=.returned (.tuple #[])∧∃ w2,Q w2∧w'=onceEnd b off w2:=by
 have HS:=zH (slow_any b off fc caps w Q h0 h1 f0 f1 he hf hq);have hl:=run_call_load (P:=Tryz.prog) Tryz.func184 (by kernel_rfl) (by kernel_rfl) (by kernel_rfl) .u32 (by kernel_rfl) h0;have hnot:∀ (x:Bool) (w:World),(Op.unary .not (.bool x)).run Tryz.prog w=.ok (.bool (!x)) w:=fun _ _=>rfl
 clear he hf hq;go_enter Tryz.func143,Tryz.ntmps143;go_wp2_with (first|(go_at_call 165;refine HS.out.mono ?_;rintro e w' ⟨rfl,hw⟩)|(go_at_call 164;go_in))
 go_end0
 exact⟨rfl,hw⟩
theorem enter_list (caps:Array Value) (w:World):(callFunc 155 caps).run Tryz.prog w=.ok (.enter 155 caps) w:=by kernel_rfl
theorem enter_tell (caps:Array Value) (w:World):(callFunc 144 caps).run Tryz.prog w=.ok (.enter 144 caps) w:=by kernel_rfl
theorem do_done (a:Addr) (fv:Value) (w:World) (h0:w.cell? a=some (.int .u32 1)):
 Calls Tryz.prog 143 #[.pointer (some a),fv] w fun e w'=>e=.returned (.tuple #[])∧w'=w:=by
 have hl:=run_call_load (P:=Tryz.prog) Tryz.func184 (by kernel_rfl) (by kernel_rfl) (by kernel_rfl) .u32 (by kernel_rfl) h0;have hnot:∀ (x:Bool) (w:World),(Op.unary .not (.bool x)).run Tryz.prog w=.ok (.bool (!x)) w:=fun _ _=>rfl
 go_enter Tryz.func143,Tryz.ntmps143;go_wp2
 go_end0
 exact⟨rfl,rfl⟩
end Go.Proofs.YtbefcdjcefmicaaGreat.Em
