import Derived.Test.YthicolbbmjfkfaaGreatQp5
import Derived.Laws.ResultCell
import Derived.Laws.Rows
import Derived.Deep.Cut
import Derived.Laws.MakeOwn
import Derived.ChangeOld
import Derived.Deep.Slices
import Derived.Test.YthicolbbmjfkfaaGreatQp10
namespace Go.Proofs.YthicolbbmjfkfaaGreat.Em
open Go.ChangeShapes Go.WideShapes Go.ChangeAt Go.RowKit En
set_option linter.unusedVariables false
set_option linter.unusedSimpArgs false
set_option maxRecDepth 100000
set_option maxHeartbeats 1600000
theorem results_cell_tmp_row {P:Program} {fn:Func} {p u:Tmp} {ty:TypeId} (h:fn.results=#[.cell p ty,.tmp u]) (tmps:Array Value) (w:World) (g:Nat) (t:TypeId) (cs:Array Value) (fr:Nat×Nat) (d:TypeDesc)
 (hp:tmps.getD p undef=.pointer (some ⟨g,0,none⟩)) (hg:w.heap[g]? =some (.cells cs t fr))
 (hu:P.underlying ty=some d) (hd:(match d with|.struct _|.array _ _=>true|_=>false)=true) (hi:(P.info? ty).map (·.size)=some cs.size):
 (results fn tmps).run P w=.ok (.tuple #[.agg cs,tmps.getD u undef]) w:=by
 rw[results_cell_tmp h,hp];simp[asAddr,run_loadVar_row w g t ty cs fr d hg hu hd hi,Result.andThen]
theorem copied_nil (w:World) (re rv ro rr:Int) (a:Option Addr) (cap:Nat):
 Calls Tryz.prog 53 #[.agg #[zi re,zi rv,.slice a 0 cap,zi ro,zi rr]] w fun e w'=>e=.returned (.agg #[zi re,zi rv,.slice none 0 0,zi ro,zi rr])∧Below w.heap.size w w':=by
 have hb:Below w.heap.size w (((w.alloc (.cells #[zi re,zi rv,.slice none 0 0,zi ro,zi rr] 46))).alloc (.cells #[zi re,zi rv,.slice none 0 0,zi ro,zi rr] 46)):=(((Below.refl _ _).alloc (Nat.le_refl _) _)).alloc (by simp) _;have HB:=zH hb;clear hb
 cases a with
 |none=>
  go_enter Tryz.func53,Tryz.ntmps53;go_wp2
  (try simp only[Exit.inBlock,Exit.then])
  refine bodyPost_ret (results_cell_row rfl _ _ (w.heap.size+1) 46 #[zi re,zi rv,.slice none 0 0,zi ro,zi rr] _ _ rfl (heap_alloc2_new w _ _) Tryz.underlying46 rfl (by kernel_rfl)) rfl ?_;exact⟨rfl,HB.out⟩
 |some x=>
  go_enter Tryz.func53,Tryz.ntmps53;go_wp2
  (try simp only[Exit.inBlock,Exit.then])
  refine bodyPost_ret (results_cell_row rfl _ _ (w.heap.size+1) 46 #[zi re,zi rv,.slice none 0 0,zi ro,zi rr] _ _ rfl (heap_alloc2_new w _ _) Tryz.underlying46 rfl (by kernel_rfl)) rfl ?_;exact⟨rfl,HB.out⟩
end Go.Proofs.YthicolbbmjfkfaaGreat.Em
namespace Go.Proofs.YthicolbbmjfkfaaGreat.Em
open En
set_option linter.unusedVariables false
set_option linter.unusedSimpArgs false
set_option maxRecDepth 100000
set_option maxHeartbeats 1600000
def SwS (σ τ:St):Prop:=τ.sw=σ.sw∧τ.cut=σ.cut
theorem SwS.trans {σ τ υ:St} (h:SwS σ τ) (k:SwS τ υ):SwS σ υ:=⟨k.1.trans h.1,k.2.trans h.2⟩
theorem sw_cas (σ:St) (i o v:Nat):SwS σ (σ.cas i o v):=by unfold St.cas;split<;>exact⟨rfl,rfl⟩
theorem sw_help (σ:St) (w:Nat):SwS σ (σ.help w):=sw_cas _ _ _ _
theorem sw_bind (σ:St) (s tq:Nat):SwS σ (σ.bind s tq):=by unfold St.bind;split<;>exact⟨rfl,rfl⟩
theorem sw_list (σ:St):SwS σ σ.list:=by unfold St.list;split<;>exact⟨rfl,rfl⟩
theorem sw_take (σ:St):SwS σ σ.take.1:=by unfold St.take;simp only;split<;>exact sw_list σ
theorem sw_give (σ:St) (l:Nat):SwS σ (σ.give l):=by
 unfold St.give
 split
 · simp only
   split<;>exact⟨rfl,rfl⟩
 · exact⟨rfl,rfl⟩
theorem sw_scan (s n:Nat):∀ (σ:St) (key:Nat),SwS σ (scanN s n σ key).1:=by
 induction n with
 |zero=>intro σ key;exact⟨rfl,rfl⟩
 |succ n ih=>
  intro σ key;unfold scanN
  split
  · exact⟨rfl,rfl⟩
  · split
    · rename_i x _
      refine SwS.trans ?_ (ih _ (key+1))
      split<;>exact⟨rfl,rfl⟩
    · exact⟨rfl,rfl⟩
theorem sw_slot (σ:St) (s:Nat) (x:Bool) (link head:Nat):SwS σ (σ.slot s x link head).1:=by
 unfold St.slot
 by_cases h:link=0
 · rw[if_pos h]
   have:=sw_take σ
   cases e:σ.take with
   |mk τ o=>
    rw[e] at this
    cases o<;>exact this
 · rw[if_neg h];exact⟨rfl,rfl⟩
theorem sw_thn (σ:St) (s:Nat) (h:Hunt) (link:Nat):SwS σ (σ.thn s h link).1:=by
 unfold St.thn
 split
 · simp only;split<;>exact⟨rfl,rfl⟩
 · simp only
   unfold St.scan;refine SwS.trans ?_ (sw_scan _ _ _ _)
   split<;>exact⟨rfl,rfl⟩
 · simp only
   split
   · exact⟨rfl,rfl⟩
   split
   · exact⟨rfl,rfl⟩
   split<;>exact⟨rfl,rfl⟩
 · split<;>exact⟨rfl,rfl⟩
theorem sw_visit (σ:St) (s:Nat) (h:Hunt) (link:Nat):SwS σ (σ.visit s h link).1:=by unfold St.visit;split;exact sw_thn _ _ _ _;exact⟨rfl,rfl⟩
theorem sw_seen (σ:St) (s:Nat) (h:Hunt) (link mb:Nat):SwS σ (σ.seen s h link mb).1:=by unfold St.seen;split;exact sw_thn _ _ _ _;exact⟨rfl,rfl⟩
theorem sw_freeK (σ:St) (s link head at_:Nat):SwS σ (σ.freeK s link head at_).1:=by unfold St.freeK;split;exact sw_slot _ _ _ _ _;exact⟨rfl,rfl⟩
theorem sw_lost (σ:St) (link:Nat):SwS σ (σ.lost link).1:=by unfold St.lost;split;exact sw_give _ _;exact⟨rfl,rfl⟩
theorem sw_tellEnd (σ:St) (s:Nat) (e:Ev):SwS σ (σ.tellEnd s e):=by unfold St.tellEnd;split<;>exact⟨rfl,rfl⟩
theorem run_sw (σ:St) (s:Nat) (k:K):SwS σ (σ.run s k).1:=by
 have r0:SwS σ σ:=⟨rfl,rfl⟩
 cases k
 case turns l r=>
  cases l with
  |nil=>exact r0
  |cons x l=>simp only[St.run];split;exact r0;exact sw_cas _ _ _ _
 case start h=>exact sw_visit σ.tick s h _
 case older h link=>exact sw_visit σ.tick s h _
 case ended h link mb=>
  simp only[St.run]
  split
  · exact r0
  split
  · exact sw_seen σ.tick s h link mb
  · exact r0
 case ender h link mb id=>
  simp only[St.run]
  split
  · exact sw_seen σ.tick s h link mb
  split
  · exact sw_bind σ.tick s id
  · exact r0
 case seen h link mb=>
  simp only[St.run]
  split
  · exact r0
  · split
    · exact (sw_bind σ.tick s mb).trans (sw_thn _ _ _ _)
    · exact sw_thn σ.tick _ _ _
 case claim link w=>
  simp only[St.run]
  split
  · exact sw_cas _ _ _ _
  split
  · exact sw_cas σ _ _ _
  · refine SwS.trans (sw_cas σ (wslot link 1) w (mine (σ.t s))) (SwS.trans ?_ (sw_slot _ _ _ _ _))
    exact⟨rfl,rfl⟩
 case fresh link=>exact sw_freeK σ.tick s _ _ _
 case next link head at_=>exact sw_freeK σ.tick s _ _ _
 case free link head at_=>
  simp only[St.run]
  split
  · exact r0
  split
  · exact sw_lost σ.tick _
  · exact r0
 case freeTxn link head at_ id=>
  simp only[St.run]
  split
  · exact r0
  · exact sw_lost σ.tick _
 case pushC link head=>
  simp only[St.run]
  split
  · exact sw_cas _ _ _ _
  · exact sw_cas _ _ _ _
 case overC link head=>
  simp only[St.run]
  split
  · exact sw_cas _ _ _ _
  · exact sw_cas _ _ _ _
 case turn w now=>
  simp only[St.run]
  split
  · exact sw_cas _ _ _ _
  · exact sw_cas σ _ _ _
 case drawH w now=>exact sw_help _ _
 case helpJ=>exact sw_help _ _
 case commit=>exact sw_tellEnd (σ.put _ _) s _
 case abort e r=>exact sw_tellEnd (σ.put _ _) s _
 case again e=>
  simp only[St.run]
  split<;>exact⟨rfl,rfl⟩
 all_goals (simp only[St.run];(repeat' split)<;>exact⟨rfl,rfl⟩)
theorem first_sw (σ:St) (s:Nat):SwS σ (σ.first s).1:=by
 have r0:SwS σ σ:=⟨rfl,rfl⟩
 unfold St.first;simp only
 split
 · split<;>exact r0
 · exact sw_scan _ _ _ _
 · exact r0
 · exact r0
 · split
   · split
     · exact r0
     split
     · exact r0
     split
     · exact sw_slot _ _ _ _ _
     · exact r0
   · exact r0
end Go.Proofs.YthicolbbmjfkfaaGreat.Em
namespace Go.Proofs.YthicolbbmjfkfaaGreat.Em
open Go.ChangeShapes Go.WideShapes Go.ChangeAt Go.RowKit En
set_option linter.unusedVariables false
set_option linter.unusedSimpArgs false
set_option maxRecDepth 100000
set_option maxHeartbeats 1600000
theorem sessionOk (s:Nat) (hs:s<8) (w:World):Calls Tryz.prog 40 #[zi (s:Int)] w fun e w'=>e=.returned (.bool true)∧w=w':=by
 have h1:(0:Int)≤(s:Int):=by omega
 have h2:(s:Int)<8:=by omega
 have h3:decide ((0:Int)≤(s:Int))=true:=by simp
 have h4:decide ((s:Int)<8)=true:=by simp;omega
 have h5:(s<8)=True:=by simpa using hs
 go_enter Tryz.func40,Tryz.ntmps40;go_wp2;go_ret;exact⟨rfl,rfl⟩
structure Live (A:Book) (σ:St) (w:World):Prop where
 rep:Rep A σ w
 mp:A.mp=0
 mt:∀ s,A.mt s=0
 call:∀ s,s<8→∀ c,σ.calls.getD s none=some c→A.vcall s=ptr (A.bc s)∧∃ k,c.k=some k∧KRep (kp A σ s) A.L w (A.vnext s) k
 idle:∀ s,s<8→σ.calls.getD s none=none→A.vcall s=.pointer none
 sx:SwRep A σ w
structure StayQ (A A':Book) (s:Nat):Prop where
 bf:A'.bef=A.bef
 mp:A'.mp=A.mp
 mt:A'.mt=A.mt
 bt:∀ q,q≠s→A'.bt q=A.bt q
 bc:∀ q,q≠s→A'.bc q=A.bc q
 bx:∀ q,q≠s→A'.bx q=A.bx q
 vpairs:∀ q,q≠s→A'.vpairs q=A.vpairs q
 vnext:∀ q,q≠s→A'.vnext q=A.vnext q
 vcall:∀ q,q≠s→A'.vcall q=A.vcall q
theorem StayQ.be {A A':Book} {s:Nat} (h:StayQ A A' s):A'.be=A.be:=bef_be h.bf
theorem Live.of {A A':Book} {σ σ':St} {w w':World} {s:Nat} (hL:Live A σ w) (hsw:σ'.sw=σ.sw∧σ'.cut=σ.cut) (r:Rep A' σ' w') (g:Grow A.L w A'.L w') (st:StayQ A A' s) (hq:∀ q,q≠s→σ'.calls.getD q none=σ.calls.getD q none)
 (h1:∀ c,σ'.calls.getD s none=some c→A'.vcall s=ptr (A'.bc s)∧∃ k,c.k=some k∧KRep (kp A' σ' s) A'.L w' (A'.vnext s) k) (h2:σ'.calls.getD s none=none→A'.vcall s=.pointer none):Live A' σ' w':=by
 refine⟨r,st.mp.trans hL.mp,fun q=>by rw[st.mt];exact hL.mt q,fun q hq8 c hc=>?_,fun q hq8 hc=>?_,hL.sx.keep st.bf hsw g⟩
 · by_cases h:q=s
   · subst h;exact h1 c hc
   · have hc0:=(hq q h).symm.trans hc
     obtain⟨e1,k,e2,e3⟩:=hL.call q hq8 c hc0;have ek:kp A' σ' q=kp A σ q:=by
      unfold kp;rw[st.be,st.bt q h,st.bc q h,st.bx q h,st.vpairs q h,call_get hc,call_get hc0]
     refine⟨by rw[st.vcall q h,st.bc q h];exact e1,k,e2,?_⟩;rw[ek,st.vnext q h];exact e3.grow g
 · by_cases h:q=s
   · subst h;exact h2 hc
   · rw[st.vcall q h]
     exact hL.idle q hq8 ((hq q h).symm.trans hc)
theorem KRep.enter {p:KP} {L:Lab} {w:World} {v:Value} {k:K} (h:KRep p L w v k):∃ f b c,v=.func (.func f) b c∧∀ args w,(callFunc f args).run Tryz.prog w=.ok (.enter f args) w:=by
 cases k<;>first
  |(obtain⟨b0,e,_⟩:=h;exact⟨_,_,_,e,fun args w=>by kernel_rfl⟩)
  |(obtain⟨b0,b1,e,_⟩:=h;exact⟨_,_,_,e,fun args w=>by kernel_rfl⟩)
  |(obtain⟨b0,b1,b2,e,_⟩:=h;exact⟨_,_,_,e,fun args w=>by kernel_rfl⟩)
  |(obtain⟨b0,b1,b2,b3,e,_⟩:=h;exact⟨_,_,_,e,fun args w=>by kernel_rfl⟩)
  |(obtain⟨b0,b1,b2,b3,b4,e,_⟩:=h;exact⟨_,_,_,e,fun args w=>by kernel_rfl⟩)
  |(obtain⟨b0,b1,b2,b3,b4,b5,e,_⟩:=h;exact⟨_,_,_,e,fun args w=>by kernel_rfl⟩)
  | (rename_i l r; cases l
     · obtain⟨b0,b1,b2,b3,e,_⟩:=h;exact⟨_,_,_,e,fun args w=>by kernel_rfl⟩
     · obtain⟨b0,b1,b2,b3,b4,e,_⟩:=h;exact⟨_,_,_,e,fun args w=>by kernel_rfl⟩)
def Stepped (A:Book) (w:World) (σ':St) (kind:Int) (r:Res):Ending→World→Prop:=fun e w'=>∃ A' vp,e=.returned (.tuple #[.agg #[zi kind,zi (r.e:Int),zi (r.value:Int),vp,zi (r.over:Int),zi (r.reason:Int)],zi 0])∧FRow A'.L w' 2 vp (pairCs r.pairs)∧Live A' σ' w'∧Grow A.L w A'.L w'∧A'.be=A.be
def RunsTo (σ1:St) (s:Nat) (k:K):Prop:=∀ A w1 f b c,Rep A σ1 w1→A.mp=0→A.mt s=0→KRep (kp A σ1 s) A.L w1 (.func (.func f) b c) k→Calls Tryz.prog f (b++c) w1 (Ran A w1 s (σ1.run s k))
theorem step_go {A:Book} {σ:St} {w:World} (hL:Live A σ w) (s:Nat) (hs:s<8) (t:Txn) (ht:σ.txns.getD s none=some t) (c:Cal) (hc:σ.calls.getD s none=some c) (k:K) (hk:c.k=some k) (hcnt:σ.count<3000000000000000000) (σ2:St) (ok:Option K) (hrun:(σ.setC s {c with waits:=false}).run s k=(σ2,ok)) (HS:RunsTo (σ.setC s {c with waits:=false}) s k) (c2:Cal) (hc2:σ2.calls.getD s none=some c2) (dl:Nat) (hdl:σ2.count=σ.count+dl) (hd1:dl<1000000) (hlk:σ2.looks<1000000000000000000) (hcq:∀ q,q≠s→σ2.calls.getD q none=σ.calls.getD q none) (k':K) (hok:ok=some k') (hov:c2.over=false):
 Calls Tryz.prog 34 #[.pointer (some ⟨A.be,0,none⟩),zi (s:Int)] w (Stepped A w ({σ2.setC s {c2 with k:=ok} with looks:=σ2.looks+dl}) (if c2.waits then 2 else 1) {}):=by
 have HSW:Hid (σ2.sw=σ.sw∧σ2.cut=σ.cut):=zH (by have h:=run_sw (σ.setC s {c with waits:=false}) s k;rw[hrun] at h;exact h);obtain⟨Q,hQ⟩:∃ Q,Q=Stepped A w ({σ2.setC s {c2 with k:=ok} with looks:=σ2.looks+dl}) (if c2.waits then 2 else 1) {}:=⟨_,rfl⟩
 rw[←hQ];have HQ:=zH hQ;clear hQ;obtain⟨r0,g0,fl,fh⟩:=hL.rep.newTmp (.cells #[zi 0,zi 0,zi 0,.slice none 0 0,zi 0,zi 0] 81);obtain⟨hvc,k0,hk0,hkr⟩:=hL.call s hs c hc;obtain rfl:k=k0:=by rw[hk] at hk0;exact Option.some.inj hk0
 obtain⟨fv,fb,fc,hvn,hent⟩:=hkr.enter;have hsok:=zH (sessionOk s hs);have b1:(s:Int)<8:=by omega
 have b0:(0:Int)≤(s:Int):=by omega
 have v0:(w.alloc (.cells #[zi 0,zi 0,zi 0,.slice none 0 0,zi 0,zi 0] 81)).cell? ⟨A.be,13+s,none⟩=some (.pointer (some ⟨A.bc s,0,none⟩)):=by rw[←show A.vcall s=.pointer (some ⟨A.bc s,0,none⟩) from hvc];exact r0.eng (13+s) (engCs_call (A.tmp w.heap.size) σ hs)
 have v1:(w.alloc (.cells #[zi 0,zi 0,zi 0,.slice none 0 0,zi 0,zi 0] 81)).cell? ⟨A.be,5+s,none⟩=some (.pointer (some ⟨A.bt s,0,none⟩)):=by
  have h:=r0.eng (5+s) (engCs_txn (A.tmp w.heap.size) σ hs);have e:(A.tmp w.heap.size).tp σ s=.pointer (some ⟨A.bt s,0,none⟩):=by unfold Book.tp;rw[ht];rfl
  rw[e] at h;exact h
 obtain⟨σ1,hσ1⟩:∃ σ1,σ1=σ.setC s {c with waits:=false}:=⟨_,rfl⟩
 rw[←hσ1] at hrun HS;have hc1:σ1.calls.getD s none=some {c with waits:=false}:=by rw[hσ1,getC_set (lt_of_call hc),if_pos rfl]
 have hkp:kp A σ1 s=kp A σ s:=by unfold kp;rw[call_get hc1,call_get hc]
 have H5:Hid (∀ n w5,(w.alloc (.cells #[zi 0,zi 0,zi 0,.slice none 0 0,zi 0,zi 0] 81)).drewN n=w5→w5.cell? ⟨A.bc s,10,none⟩=some (.bool c.waits)∧w5.frozen? ⟨A.bc s,10,none⟩=false∧∀ w6,w5.setCell ⟨A.bc s,10,none⟩ (.bool false)=w6→w6.cell? ⟨A.be,2,none⟩=some (.pointer (some ⟨A.ba,0,none⟩))∧w6.cell? ⟨A.bc s,4,none⟩=some (.func (.func fv) fb fc)∧Calls Tryz.prog 71 #[.pointer (some ⟨A.ba,0,none⟩)] w6 (fun e w'=>e=.returned (zi (σ.count:Int))∧w6=w')∧Calls Tryz.prog fv (fb++fc) w6 (Ran (A.tmp w.heap.size) w6 s (σ2,ok))∧Grow A.L w (A.tmp w.heap.size).L w6∧((A.tmp w.heap.size).L w.heap.size=some .tmp∧w6.heap[w.heap.size]? =some (.cells #[zi 0,zi 0,zi 0,.slice none 0 0,zi 0,zi 0] 81))):=by
  rintro n w5 rfl;have r5:=r0.drewN n;refine⟨r5.call hc 10 rfl,r5.callF hc 10,?_⟩;rintro w6 rfl;obtain⟨r6,g6⟩:=r5.setCall hc {c with waits:=false} 10 (.bool false) rfl rfl;have g56:=(Grow.drewN (A.tmp w.heap.size).L (w.alloc (.cells #[zi 0,zi 0,zi 0,.slice none 0 0,zi 0,zi 0] 81)) n).trans g6;have gg:=g0.trans g56;rw[←hσ1] at r6;have h4:_=some (A.vnext s):=r6.call hc1 4 rfl;rw[hvn] at h4;have h4':(((w.alloc (.cells #[zi 0,zi 0,zi 0,.slice none 0 0,zi 0,zi 0] 81)).drewN n).setCell ⟨A.bc s,10,none⟩ (.bool false)).cell? ⟨A.bc s,4,none⟩=some (.func (.func fv) fb fc):=h4;have hk6:=(hkr.grow gg)
  rw[hvn,←hkp] at hk6;have hS:=HS (A.tmp w.heap.size) _ fv fb fc r6 hL.mp (hL.mt s) hk6;rw[hrun] at hS;have hcn:=count_any r6 (by rw[hσ1];exact Nat.lt_trans hcnt (by decide));have hcc:σ1.count=σ.count:=by rw[hσ1];rfl
  rw[hcc] at hcn;exact⟨r6.eng 2 rfl,h4',hcn,hS,gg,tmp_grow ⟨fl,fh⟩ g56⟩
 have HL0:=zH hL;have HF:=zH (zA hc2 (zA hdl (zA hcq (zA hs hlk))));have n1:IntKind.i64.wrap (((σ.count+dl:Nat):Int) - (σ.count:Int))=(dl:Int):=by rw[IntKind.wrap_i64];omega
 have n2:IntKind.i64.wrap ((σ2.looks:Int)+(dl:Int))=((σ2.looks+dl:Nat):Int):=by rw[IntKind.wrap_i64];omega
 have H7 : Hid (∀ A2 w2 v A3, A3 = { A2 with vnext := upF A2.vnext s v } → Rep A2 σ2 w2 → Stay (A.tmp w.heap.size) A2 s → w2.cell? ⟨A.bc s, 4, none⟩ = some (A2.vnext s) ∧ w2.frozen? ⟨A.bc s, 4, none⟩ = false ∧ ∀ w3, w2.setCell ⟨A.bc s, 4, none⟩ v = w3 → w3.cell? ⟨A.be, 23, none⟩ = some (zi (σ2.looks : Int)) ∧ w3.frozen? ⟨A.be, 23, none⟩ = false ∧ w3.cell? ⟨A.be, 2, none⟩ = some (.pointer (some ⟨A.ba, 0, none⟩)) ∧ Calls Tryz.prog 71 #[.pointer (some ⟨A.ba, 0, none⟩)] w3.drew (fun e w' => e = .returned (zi ((σ.count + dl : Nat) : Int)) ∧ w' = w3.drew) ∧
     ∀ w4,w3.drew.setCell ⟨A.be,23,none⟩ (zi ((σ2.looks+dl:Nat):Int))=w4→Rep A3 ({σ2.setC s {c2 with k:=ok} with looks:=σ2.looks+dl}) w4∧Grow A2.L w2 A2.L w4∧w4.cell? ⟨A.bc s,10,none⟩=some (.bool c2.waits)∧w4.cell? ⟨A.bc s,11,none⟩=some (.bool c2.over)):=by
  intro A2 w2 v A3 hA3 q st;have ebc:A2.bc=A.bc:=st.bc;have ebe:A2.be=A.be:=st.be;have eba:A2.ba=A.ba:=st.ba;have x4:=q.call hc2 4 (v:=A2.vnext s) rfl;have z4:=q.callF hc2 4;rw[ebc] at x4 z4;refine⟨x4,z4,?_⟩;rintro w3 rfl;obtain⟨r3,g3⟩:=q.nextSet hc2 v ok;rw[←hA3,ebc] at r3;rw[ebc] at g3;have e3:A3.be=A.be:=by rw[hA3];exact ebe
  have e3a:A3.ba=A.ba:=by rw[hA3];exact eba
  have e3c:A3.bc=A.bc:=by rw[hA3];exact ebc
  have e3L:A3.L=A2.L:=by rw[hA3]
  have y23:=r3.eng 23 (v:=zi (σ2.looks:Int)) rfl;have z23:=r3.engF 23;have y2:=r3.eng 2 (v:=.pointer (some ⟨A3.ba,0,none⟩)) rfl;have hcn:=flip (count_any r3.drew (by show σ2.count<_;omega));rw[e3] at y23 z23 y2;rw[e3a] at hcn y2;rw[show (σ2.setC s {c2 with k:=ok}).count=σ.count+dl from hdl] at hcn;refine⟨y23,z23,y2,hcn,?_⟩;intro w4 hw4;obtain⟨r4,g4⟩:=r3.drew.looksSet (σ2.looks+dl);rw[e3,hw4] at r4 g4;rw[e3L] at g4;have hc4:({σ2.setC s {c2 with k:=ok} with looks:=σ2.looks+dl}:St).calls.getD s none=some {c2 with k:=ok}:=by show (σ2.setC s {c2 with k:=ok}).calls.getD s none=_;rw[getC_set (lt_of_call hc2),if_pos rfl]
  have a10:=r4.call hc4 10 (v:=.bool c2.waits) rfl;have a11:=r4.call hc4 11 (v:=.bool c2.over) rfl;rw[e3c] at a10 a11;exact⟨r4,(g3.trans (Grow.drew _ _)).trans g4,a10,a11⟩
 have hwx:(w.alloc (.cells #[zi 0,zi 0,zi 0,.slice none 0 0,zi 0,zi 0] 81)).cell? ⟨A.bc s,10,none⟩=some (.bool c.waits):=r0.call hc 10 rfl;have HVC:=zH hvc;clear hL ht hc hk hcnt hrun HS hc2 hdl hd1 hlk hcq r0 g0 fl fh hvc hk0 hkr hvn hσ1 hc1 hkp hs;generalize (σ.count:Int)=ca at*;generalize ((σ.count+dl:Nat):Int)=cb at*;generalize ((σ2.looks+dl:Nat):Int)=lb at*;go_enter Tryz.func34,Tryz.ntmps34;go_wp2_with (go_at_call 40;refine (hsok.out _).mono ?_;rintro e w' ⟨rfl,rfl⟩);generalize hw0:w.alloc _=w0 at*
 go_quiet (fail)
 generalize hw5:w0.drewN _=w5;obtain⟨x10,z10,h6⟩:=H5.out _ w5 hw5;obtain⟨y2,y4,hcn,hS,gg,fD⟩:=h6 _ rfl;have HC:=zH hcn;have HX:=zH (zA hS (zA gg fD));clear hcn hS gg fD h6 hw5 hw0 H5 v0 v1 hwx;go_wp2_with (go_at_call 71;refine HC.out.mono ?_;rintro e w' ⟨rfl,rfl⟩);refine HX.out.1.mono ?_;rintro e w2 ⟨A2,v,rfl,q1,q2,q3,q4⟩;subst hok;obtain⟨f2,u2,u3,rfl,hent2⟩:=KRep.enter q4;obtain⟨x4,z4,h3⟩:=H7.out A2 w2 (.func (.func f2) u2 u3) _ rfl q1 q3;obtain⟨y23,z23,y2',hcn,h4⟩:=h3 _ rfl;have HC2:=zH hcn;have HX2:=zH (zA q1 (zA q2 (zA q3 (zA q4 h4))));clear hcn h3 h4 q1 q2 q3 q4 H7 x10 z10 y2 y4;go_wp2_with fail;generalize hw3:w2.setCell ⟨A.bc s,4,none⟩ (.func (.func f2) u2 u3)=w3 at*;refine wp_region_still_tail 14 (by kernel_rfl) (by kernel_rfl) ?_;simp only[zta,ztb,ztc,ztd]
 repeat still_step
 still_call HC2.out
 repeat still_step
 refine wpStill_nil ?_;change wpList _ _ _ _ _ w3.drew;have y23d:w3.drew.cell? ⟨A.be,23,none⟩=some (zi (σ2.looks:Int)):=y23;have z23d:w3.drew.frozen? ⟨A.be,23,none⟩=false:=z23;generalize w3.drew=wd at*;obtain⟨r4,g4,a10,a11⟩:=HX2.out.2.2.2.2 _ rfl;have fD:=tmp_grow (tmp_grow HX.out.2.2 HX2.out.2.1) g4;have HTH:=zH (there_of fD.2);have HY:=zH (zA r4 (zA g4 fD));have HOV:=zH hov;rw[hov] at a11;clear r4 g4 fD hov
 cases hwt:c2.waits
 · rw[hwt] at a10
   have HWT:=zH hwt;clear hwt;go_wp2_with (refine wpList_store_mid rfl 81 (.tmp 4) (.tmp 77) rfl w.heap.size 0 #[zi 1,zi 0,zi 0,.slice none 0 0,zi 0,zi 0] rfl rfl HTH.out (by kernel_rfl) (by simp[Value.oneCell']) ?_;generalize hws:World.setCells _ _ _ _=ws);have hbut:=But.setCells w.heap.size [zi 1,zi 0,zi 0,.slice none 0 0,zi 0,zi 0] 0 (wd.setCell ⟨A.be,23,none⟩ (zi lb));have hfin:=heap_setCells6 HY.out.2.2.2 (zi 1) (zi 0) (zi 0) (.slice none 0 0) (zi 0) (zi 0);rw[show (wd.setCell ⟨A.be,23,none⟩ (zi lb)).setCells w.heap.size 0 [zi 1,zi 0,zi 0,.slice none 0 0,zi 0,zi 0]=ws from hws] at hbut hfin
   (try simp only[Exit.inBlock,Exit.then])
   refine bodyPost_ret (results_cell_tmp_row rfl _ _ w.heap.size 81 #[zi 1,zi 0,zi 0,.slice none 0 0,zi 0,zi 0] _ _ rfl hfin Tryz.underlying81 rfl (by kernel_rfl)) rfl ?_;have hkd:(if c2.waits then (2:Int) else 1)=1:=by rw[HWT.out];rfl
   rw[HQ.out,hkd];obtain⟨hc2,hdl,hcq,hs,_⟩:=HF.out;obtain⟨q1,q2,q3,q4,_⟩:=HX2.out;obtain⟨r4,g4,fD⟩:=HY.out;have r5:=r4.but fD.1 hbut;have gg:=(((HX.out.2.1.trans q2).trans g4).but (Nat.le_refl _) hbut)
   have hc':({σ2.setC s {c2 with k:=some k'} with looks:=σ2.looks+dl}:St).calls.getD s none=some {c2 with k:=some k'}:=by show (σ2.setC s {c2 with k:=some k'}).calls.getD s none=_;rw[getC_set (lt_of_call hc2),if_pos rfl]
   refine⟨{A2 with vnext:=upF A2.vnext s (.func (.func f2) u2 u3)},.slice none 0 0,rfl,FRow.nil _ _ _,Live.of (s:=s) HL0.out HSW.out r5 gg ⟨q3.bf,q3.mp,q3.mt,fun q _=>by rw[show ({A2 with vnext:=_}:Book).bt=A.bt from q3.bt],fun q _=>by rw[show ({A2 with vnext:=_}:Book).bc=A.bc from q3.bc],q3.bx,q3.vpairs,fun q hq=>(upF_other _ _ hq).trans (congrFun q3.vnext q),fun q _=>congrFun q3.vcall q⟩ (fun q hq=>?_) (fun c' hcc=>?_) (fun hnn=>by have h0:=hc'.symm.trans hnn;cases h0),gg,q3.be⟩
   · show (σ2.setC s _).calls.getD q none=_
     rw[getC_set (lt_of_call hc2),if_neg hq];exact hcq q hq
   · obtain rfl:{c2 with k:=some k'}=c':=Option.some.inj (hc'.symm.trans hcc)
     refine⟨?_,k',rfl,?_⟩
     · show A2.vcall s=ptr (A2.bc s)
       rw[q3.vcall,q3.bc];exact HVC.out
     · have ek:kp {A2 with vnext:=upF A2.vnext s (.func (.func f2) u2 u3)} ({σ2.setC s {c2 with k:=some k'} with looks:=σ2.looks+dl}:St) s=kp A2 σ2 s:=by unfold kp;rw[call_get hc',call_get hc2]
       rw[ek,show ({A2 with vnext:=upF A2.vnext s (.func (.func f2) u2 u3)}:Book).vnext s=.func (.func f2) u2 u3 from upF_same _ _ _];exact (q4.grow g4).soft (hbut.soft fD.1)
 · rw[hwt] at a10
   have HWT:=zH hwt;clear hwt;go_wp2_with (refine wpList_store_mid rfl 81 (.tmp 4) (.tmp 70) rfl w.heap.size 0 #[zi 2,zi 0,zi 0,.slice none 0 0,zi 0,zi 0] rfl rfl HTH.out (by kernel_rfl) (by simp[Value.oneCell']) ?_;generalize hws:World.setCells _ _ _ _=ws);have hbut:=But.setCells w.heap.size [zi 2,zi 0,zi 0,.slice none 0 0,zi 0,zi 0] 0 (wd.setCell ⟨A.be,23,none⟩ (zi lb));have hfin:=heap_setCells6 HY.out.2.2.2 (zi 2) (zi 0) (zi 0) (.slice none 0 0) (zi 0) (zi 0);rw[show (wd.setCell ⟨A.be,23,none⟩ (zi lb)).setCells w.heap.size 0 [zi 2,zi 0,zi 0,.slice none 0 0,zi 0,zi 0]=ws from hws] at hbut hfin
   (try simp only[Exit.inBlock,Exit.then])
   refine bodyPost_ret (results_cell_tmp_row rfl _ _ w.heap.size 81 #[zi 2,zi 0,zi 0,.slice none 0 0,zi 0,zi 0] _ _ rfl hfin Tryz.underlying81 rfl (by kernel_rfl)) rfl ?_;have hkd:(if c2.waits then (2:Int) else 1)=2:=by rw[HWT.out];rfl
   rw[HQ.out,hkd];obtain⟨hc2,hdl,hcq,hs,_⟩:=HF.out;obtain⟨q1,q2,q3,q4,_⟩:=HX2.out;obtain⟨r4,g4,fD⟩:=HY.out;have r5:=r4.but fD.1 hbut;have gg:=(((HX.out.2.1.trans q2).trans g4).but (Nat.le_refl _) hbut)
   have hc':({σ2.setC s {c2 with k:=some k'} with looks:=σ2.looks+dl}:St).calls.getD s none=some {c2 with k:=some k'}:=by show (σ2.setC s {c2 with k:=some k'}).calls.getD s none=_;rw[getC_set (lt_of_call hc2),if_pos rfl]
   refine⟨{A2 with vnext:=upF A2.vnext s (.func (.func f2) u2 u3)},.slice none 0 0,rfl,FRow.nil _ _ _,Live.of (s:=s) HL0.out HSW.out r5 gg ⟨q3.bf,q3.mp,q3.mt,fun q _=>by rw[show ({A2 with vnext:=_}:Book).bt=A.bt from q3.bt],fun q _=>by rw[show ({A2 with vnext:=_}:Book).bc=A.bc from q3.bc],q3.bx,q3.vpairs,fun q hq=>(upF_other _ _ hq).trans (congrFun q3.vnext q),fun q _=>congrFun q3.vcall q⟩ (fun q hq=>?_) (fun c' hcc=>?_) (fun hnn=>by have h0:=hc'.symm.trans hnn;cases h0),gg,q3.be⟩
   · show (σ2.setC s _).calls.getD q none=_
     rw[getC_set (lt_of_call hc2),if_neg hq];exact hcq q hq
   · obtain rfl:{c2 with k:=some k'}=c':=Option.some.inj (hc'.symm.trans hcc)
     refine⟨?_,k',rfl,?_⟩
     · show A2.vcall s=ptr (A2.bc s)
       rw[q3.vcall,q3.bc];exact HVC.out
     · have ek:kp {A2 with vnext:=upF A2.vnext s (.func (.func f2) u2 u3)} ({σ2.setC s {c2 with k:=some k'} with looks:=σ2.looks+dl}:St) s=kp A2 σ2 s:=by unfold kp;rw[call_get hc',call_get hc2]
       rw[ek,show ({A2 with vnext:=upF A2.vnext s (.func (.func f2) u2 u3)}:Book).vnext s=.func (.func f2) u2 u3 from upF_same _ _ _];exact (q4.grow g4).soft (hbut.soft fD.1)
theorem opOk_true (o:En.Op) (h:opOk o=true) (w:World):Calls Tryz.prog 68 #[.agg #[zi (o.kind:Int),zi (o.key:Int),zi (o.hi:Int),zi (o.value:Int)]] w fun e w'=>e=.returned (.bool true)∧Below w.heap.size w w':=by
 have hb:Below w.heap.size w (w.alloc (.cells #[zi (o.kind:Int),zi (o.key:Int),zi (o.hi:Int),zi (o.value:Int)] 27)):=(Below.refl _ _).alloc (Nat.le_refl _) _;have HB:=zH hb;clear hb;obtain⟨kind,key,hi,value⟩:=o;unfold opOk at h;simp only at h HB ⊢;have hk:kind=1∨kind=2∨kind=3∨kind=4∨kind=5∨kind=6∨kind=7:=by
  by_cases h1:kind=1;exact .inl h1
  by_cases h2:kind=2;exact .inr (.inl h2)
  by_cases h3:kind=3;exact .inr (.inr (.inl h3))
  by_cases h4:kind=4;exact .inr (.inr (.inr (.inl h4)))
  by_cases h5:kind=5;exact .inr (.inr (.inr (.inr (.inl h5))))
  by_cases h6:kind=6;exact .inr (.inr (.inr (.inr (.inr (.inl h6)))))
  by_cases h7:kind=7;exact .inr (.inr (.inr (.inr (.inr (.inr h7)))))
  simp[h1,h2,h3,h4,h5,h6,h7] at h
 rcases hk with rfl|rfl|rfl|rfl|rfl|rfl|rfl
 · simp only[Bool.and_eq_true,decide_eq_true_eq,beq_iff_eq] at h
   have hx:=h;have a1:decide ((key:Int)≤(63:Int))=true:=by simp;omega
   have a2:((key:Int)≤(63:Int))=True:=by simp;omega
   have b1:((hi:Int)==0)=true:=by simp;omega
   have b2:((hi:Int)=0)=True:=by simp;omega
   have c1:((value:Int)==0)=true:=by simp;omega
   have c2:((value:Int)=0)=True:=by simp;omega
   clear h hx;go_enter Tryz.func68,Tryz.ntmps68;go_wp2;go_ret;exact⟨rfl,HB.out⟩
 · simp only[Bool.and_eq_true,decide_eq_true_eq,beq_iff_eq] at h
   have hx:=h;have a1:decide ((key:Int)≤(63:Int))=true:=by simp;omega
   have a2:((key:Int)≤(63:Int))=True:=by simp;omega
   have b1:((hi:Int)==0)=true:=by simp;omega
   have b2:((hi:Int)=0)=True:=by simp;omega
   have c1:decide ((value:Int)≤(65535:Int))=true:=by simp;omega
   have c2:((value:Int)≤(65535:Int))=True:=by simp;omega
   clear h hx;go_enter Tryz.func68,Tryz.ntmps68;go_wp2;go_ret;exact⟨rfl,HB.out⟩
 · simp only[Bool.and_eq_true,decide_eq_true_eq,beq_iff_eq] at h
   have hx:=h;have a1:decide ((key:Int)≤(63:Int))=true:=by simp;omega
   have a2:((key:Int)≤(63:Int))=True:=by simp;omega
   have b1:((hi:Int)==0)=true:=by simp;omega
   have b2:((hi:Int)=0)=True:=by simp;omega
   have c1:decide ((value:Int)≤(65535:Int))=true:=by simp;omega
   have c2:((value:Int)≤(65535:Int))=True:=by simp;omega
   clear h hx;go_enter Tryz.func68,Tryz.ntmps68;go_wp2;go_ret;exact⟨rfl,HB.out⟩
 · simp only[Bool.and_eq_true,decide_eq_true_eq,beq_iff_eq] at h
   have hx:=h;have a1:decide ((key:Int)≤(63:Int))=true:=by simp;omega
   have a2:((key:Int)≤(63:Int))=True:=by simp;omega
   have b1:((hi:Int)==0)=true:=by simp;omega
   have b2:((hi:Int)=0)=True:=by simp;omega
   have c1:((value:Int)==0)=true:=by simp;omega
   have c2:((value:Int)=0)=True:=by simp;omega
   clear h hx;go_enter Tryz.func68,Tryz.ntmps68;go_wp2;go_ret;exact⟨rfl,HB.out⟩
 · simp only[Bool.and_eq_true,decide_eq_true_eq,beq_iff_eq] at h
   have hx:=h;have a1:decide ((key:Int)≤(63:Int))=true:=by simp;omega
   have a2:((key:Int)≤(63:Int))=True:=by simp;omega
   have b1:decide ((key:Int)≤(hi:Int))=true:=by simp;omega
   have b2:((key:Int)≤(hi:Int))=True:=by simp;omega
   have e1:decide ((hi:Int)≤(63:Int))=true:=by simp;omega
   have e2:((hi:Int)≤(63:Int))=True:=by simp;omega
   have c1:((value:Int)==0)=true:=by simp;omega
   have c2:((value:Int)=0)=True:=by simp;omega
   clear h hx;go_enter Tryz.func68,Tryz.ntmps68;go_wp2;go_ret;exact⟨rfl,HB.out⟩
 · simp only[Bool.and_eq_true,decide_eq_true_eq,beq_iff_eq] at h
   have hx:=h;have a1:((key:Int)==0)=true:=by simp;omega
   have a2:((key:Int)=0)=True:=by simp;omega
   have b1:((hi:Int)==0)=true:=by simp;omega
   have b2:((hi:Int)=0)=True:=by simp;omega
   have c1:((value:Int)==0)=true:=by simp;omega
   have c2:((value:Int)=0)=True:=by simp;omega
   clear h hx;go_enter Tryz.func68,Tryz.ntmps68;go_wp2;go_ret;exact⟨rfl,HB.out⟩
 · simp only[Bool.and_eq_true,decide_eq_true_eq,beq_iff_eq] at h
   have hx:=h;have a1:((key:Int)==0)=true:=by simp;omega
   have a2:((key:Int)=0)=True:=by simp;omega
   have b1:((hi:Int)==0)=true:=by simp;omega
   have b2:((hi:Int)=0)=True:=by simp;omega
   have c1:((value:Int)==0)=true:=by simp;omega
   have c2:((value:Int)=0)=True:=by simp;omega
   clear h hx;go_enter Tryz.func68,Tryz.ntmps68;go_wp2;go_ret;exact⟨rfl,HB.out⟩
theorem ends_op (o:En.Op) (w:World):Calls Tryz.prog 69 #[.agg #[zi (o.kind:Int),zi (o.key:Int),zi (o.hi:Int),zi (o.value:Int)]] w fun e w'=>e=.returned (.bool (opEnds o))∧Below w.heap.size w w':=by
 have hb:Below w.heap.size w (w.alloc (.cells #[zi (o.kind:Int),zi (o.key:Int),zi (o.hi:Int),zi (o.value:Int)] 27)):=(Below.refl _ _).alloc (Nat.le_refl _) _;have HB:=zH hb;clear hb;have he:opEnds o=(decide (o.kind=6)||decide (o.kind=7)):=by unfold opEnds;by_cases h1:o.kind=6<;>by_cases h2:o.kind=7<;>simp[h1,h2]
 rw[he];clear he;generalize o.kind=kd at*
 by_cases h6:kd=6
 · subst h6
   go_enter Tryz.func69,Tryz.ntmps69;go_wp2;go_ret;exact⟨rfl,HB.out⟩
 · have a1:((kd:Int)==6)=false:=by simp;omega
   have a2:((kd:Int)=6)=False:=by simp;omega
   by_cases h7:kd=7
   · have b1:((kd:Int)==7)=true:=by simp;omega
     have b2:((kd:Int)=7)=True:=by simp;omega
     have HX:=zH (zA h6 h7);clear h6 h7;go_enter Tryz.func69,Tryz.ntmps69;go_wp2;go_ret;exact⟨by simp[HX.out.1,HX.out.2],HB.out⟩
   · have b1:((kd:Int)==7)=false:=by simp;omega
     have b2:((kd:Int)=7)=False:=by simp;omega
     have HX:=zH (zA h6 h7);clear h6 h7;go_enter Tryz.func69,Tryz.ntmps69;go_wp2;go_ret;exact⟨by simp[HX.out.1,HX.out.2],HB.out⟩
theorem levelOk (l:Nat) (h1:1≤l) (h2:l≤3) (w:World):Calls Tryz.prog 41 #[zi (l:Int)] w fun e w'=>e=.returned (.bool true)∧w=w':=by
 have d1:decide ((1:Int)≤(l:Int))=true:=by simp;omega
 have d2:decide ((l:Int)≤3)=true:=by simp;omega
 have e1:((1:Int)≤(l:Int))=True:=by simp;omega
 have e2:((l:Int)≤3)=True:=by simp;omega
 have g1:(1≤l)=True:=by simp;omega
 have g2:(l≤3)=True:=by simp;omega
 have g3:(0<l)=True:=by simp;omega
 clear h1 h2;go_enter Tryz.func41,Tryz.ntmps41;go_wp2;go_ret;exact⟨rfl,rfl⟩
theorem pairCs_len:∀ l:List (Nat×Nat),(pairCs l).length=l.length*2
 |[]=>rfl
 |p::l=>by have:=pairCs_len l;simp[pairCs,two] at this ⊢;omega
theorem pairCs_get:∀ (l:List (Nat×Nat)) (k:Nat) (p:Nat×Nat),l[k]? =some p→(pairCs l)[k*2]? =some (zi (p.1:Int))∧(pairCs l)[k*2+1]? =some (zi (p.2:Int))
 |[],_,_,h=>by cases h
 |q::l,0,p,h=>by
  obtain rfl:q=p:=by simpa using h
  exact⟨rfl,rfl⟩
 |q::l,k+1,p,h=>by
  have:=pairCs_get l k p (by simpa using h);rw[show (k+1)*2=k*2+1+1 by omega];exact this
theorem run_eqP (a b c d:Int) (w:World):(binOp .neq 152 (.agg #[zi a,zi b]) (.agg #[zi c,zi d])).run Tryz.prog w=.ok (.bool (!(decide (a=c)&&decide (b=d)))) w:=by
 go_simp
 repeat' split
 all_goals simp[*]
set_option maxHeartbeats 1000000 in
theorem same_pairs (va vb:Value) (ps:List (Nat×Nat)) (ba bb:Nat) (w:World) (hA:Ow.Row w ba 2 va (pairCs ps)) (hB:Ow.Row w bb 2 vb (pairCs ps)):
 Calls Tryz.prog 52 #[va,vb] w fun e w'=>e=.returned (.bool true)∧Below w.heap.size w w':=by
 obtain⟨a,n,cap,rfl,hn,hc,hm,ha⟩:=hA;obtain⟨b,n',cap',rfl,hn',hc',hm',hb⟩:=hB;rw[pairCs_len] at hn hn';obtain rfl:n=n':=by omega
 have HX:Hid (ps.length=n):=by exact (by omega:ps.length=n)
 unfold maxLen at hm;have hmax:n≤9223372036854775807:=by omega
 clear hn hn' hm hm' hc hc';go_enter Tryz.func52,Tryz.ntmps52;go_wp2
 go_loopw [5] (fun i wr=>(∃ k:Nat,k≤n∧i=zi k)∧Below w.heap.size w wr) (fun i _=>n - (intOf i).toNat)
 case atStart=>exact⟨⟨0,by omega,rfl⟩,Below.refl _ _⟩
 case round=>
  obtain⟨⟨k,hk,rfl⟩,hbel⟩:=hrel
  by_cases hlt:k<n
  · rcases ha with ha|⟨g,off,rfl,_,hg,hcell⟩
    · omega
    rcases hb with hb|⟨g',off',rfl,_,hg',hcell'⟩
    · omega
    obtain⟨p,hp⟩:∃ p,ps[k]? =some p:=⟨_,List.getElem?_eq_getElem (by rw[HX.out];exact hlt)⟩
    obtain⟨e1,e2⟩:=pairCs_get ps k p hp;have i1:(0:Int)≤(k:Int):=by omega
    have i2:(k:Int)<(n:Int):=by omega
    have c1:=hcell (k*2) (by omega);have c2:=hcell (k*2+1) (by omega);have d1:=hcell' (k*2) (by omega);have d2:=hcell' (k*2+1) (by omega);rw[e1] at c1 d1;rw[e2] at c2 d2;replace c1:=(hbel.cell (p:=⟨g,off+k*2,none⟩) hg).trans c1;replace c2:=(hbel.cell (p:=⟨g,off+(k*2+1),none⟩) hg).trans c2;replace d1:=(hbel.cell (p:=⟨g',off'+k*2,none⟩) hg').trans d1;replace d2:=(hbel.cell (p:=⟨g',off'+(k*2+1),none⟩) hg').trans d2;have c3:wr.cell? ⟨g,off+k*2+1,none⟩=some (zi (p.2:Int)):=c2;have d3:wr.cell? ⟨g',off'+k*2+1,none⟩=some (zi (p.2:Int)):=d2;have hcmp:=run_eqP p.1 p.2 p.1 p.2;rw[show (!(decide ((p.1:Int)=(p.1:Int))&&decide ((p.2:Int)=(p.2:Int))))=false by simp] at hcmp;generalize (p.1:Int)=x at*;generalize (p.2:Int)=y at*;clear hp e1 e2 hcell hcell';go_wp2_with fail
    go_quiet (fail)
    go_wp2_with fail;exact⟨⟨⟨k+1,by omega,by go_num⟩,⟨hbel.os,hbel.tape,hbel.output,hbel.size,hbel.block⟩⟩,by simp[intOf];omega⟩
  · obtain rfl:k=n:=by omega
    go_wp2_with fail;go_ret;exact⟨rfl,hbel⟩
theorem own_row {w:World} {base:Nat} {e:TypeId} {size:Nat} {v:Value} {n:Nat} {xs:List Value} (h:w.ownsRow base e size v n xs):Ow.Row w base size v xs:=by
 obtain⟨a,cap,rfl,h1,h2,a',m,c,e0,h3,h4,h5,h6⟩:=Ow.own_form h;simp only[Value.slice.injEq] at e0;obtain⟨rfl,rfl,rfl⟩:=e0;exact⟨a,n,cap,rfl,h3,h1,by unfold maxLen;omega,h6⟩
theorem Row.alloc' {w:World} {base size:Nat} {v:Value} {xs:List Value} (h:Ow.Row w base size v xs) (o:Obj):Ow.Row (w.alloc o) base size v xs:=h.below ((Below.refl _ w).alloc (Nat.le_refl _) o)
theorem infoPr:(Tryz.prog.info? 152).map (fun i=>(i.zero,i.size,i.bytes))=some (some (.agg #[zi 0,zi 0]),2,16):=by kernel_rfl
theorem pairCs_one:∀ (l:List (Nat×Nat)),∀ u∈pairCs l,u.oneCell'=true
 |[],u,h=>by cases h
 |p::l,u,h=>by
  have e:pairCs (p::l)=zi (p.1:Int)::zi (p.2:Int)::pairCs l:=rfl;rw[e] at h
  rcases List.mem_cons.1 h with rfl|h
  · rfl
  · rcases List.mem_cons.1 h with rfl|h
    · rfl
    · exact pairCs_one l u h
theorem own_but {w w':World} {base:Nat} {v:Value} {n b:Nat} {xs:List Value} {cs:Array Value} {T:TypeId} (h:w.ownsRow base 152 2 v n xs) (hb:But b w w') (hc:w.heap[b]? =some (.cells cs T)) (hT:T≠152):w'.ownsRow base 152 2 v n xs:=by
 rcases h.2 with ⟨e1,e2⟩|⟨g,cap',cur,hv,hb',hg,hx1,hx2,hx3,hx4⟩
 · exact⟨h.1,.inl ⟨e1,e2⟩⟩
 · have hgne:g≠b:=by
    rintro rfl;rw[hc] at hg;simp only[Option.some.injEq,Obj.cells.injEq] at hg;exact hT hg.2.1
   exact⟨h.1,.inr ⟨g,cap',cur,hv,hb',(hb.block g hgne).trans hg,hx1,hx2,hx3,hx4⟩⟩
theorem copied_any (w:World) (re rv ro rr:Int) (a:Option Addr) (n cap:Nat) (ps:List (Nat×Nat)) (hr:Ow.Row w 0 2 (.slice a n cap) (pairCs ps)) (hn:ps.length=n) (hl:n≤1000000):
 Calls Tryz.prog 53 #[.agg #[zi re,zi rv,.slice a n cap,zi ro,zi rr]] w fun e w'=>∃ a' c',e=.returned (.agg #[zi re,zi rv,.slice a' n c',zi ro,zi rr])∧w'.ownsRow w.heap.size 152 2 (.slice a' n c') n (pairCs ps)∧Below w.heap.size w w':=by
 obtain⟨i0,hi,hz0,hz1,hz2⟩:=info_parts infoPr;have HR:=zH hr;have HM:=zH (zA hn hl);obtain⟨W,hW⟩:∃ W,W=(w.alloc (.cells #[zi re,zi rv,.slice a n cap,zi ro,zi rr] 46)).alloc (.cells #[zi 0,zi 0,.slice none 0 0,zi 0,zi 0] 46):=⟨_,rfl⟩
 have hWs:W.heap.size=w.heap.size+1+1:=by rw[hW];simp
 have hWb:Below w.heap.size w W:=by rw[hW];exact (((Below.refl _ _).alloc (Nat.le_refl _) _)).alloc (by simp) _
 have hW0:W.heap[w.heap.size]? =some (.cells #[zi re,zi rv,.slice a n cap,zi ro,zi rr] 46):=by rw[hW,heap_alloc_old _ _ (by simp),heap_alloc_new]
 have hW1:W.heap[w.heap.size+1]? =some (.cells #[zi 0,zi 0,.slice none 0 0,zi 0,zi 0] 46):=by
  have:=heap_alloc_new (w.alloc (.cells #[zi re,zi rv,.slice a n cap,zi ro,zi rr] 46)) (.cells #[zi 0,zi 0,.slice none 0 0,zi 0,zi 0] 46);rw[hW];simpa using this
 have HW:=zH (zA hWs (zA hWb (zA hW0 (zA hW1 (hr.below hWb)))));have HF:Hid (∀ v' w2,w2.ownsRow w.heap.size 152 2 v' n (pairCs ps)→W.grownBy w2 none→∃ a' c',v'=.slice a' n c'∧w2.heap[w.heap.size]? =some (.cells #[zi re,zi rv,.slice a n cap,zi ro,zi rr] 46)∧w2.heap[w.heap.size+1]? =some (.cells #[zi 0,zi 0,.slice none 0 0,zi 0,zi 0] 46)∧w2.cell? ⟨w.heap.size,2,none⟩=some (.slice a n cap)∧w2.frozen? ⟨w.heap.size,2,none⟩=false∧Below w.heap.size w w2):=by
  intro v' w2 q1 q2;obtain⟨a',c',rfl,_⟩:=Ow.own_form q1;have h0:w2.heap[w.heap.size]? =_:=(q2.block _ (by rw[hWs];omega) (by simp)).trans hW0;have h1:w2.heap[w.heap.size+1]? =_:=(q2.block _ (by rw[hWs];omega) (by simp)).trans hW1;refine⟨a',c',rfl,h0,h1,by simp[World.cell?,h0],by simp[World.frozen?,h0],⟨q2.os.trans hWb.os,q2.tape.trans hWb.tape,q2.output.trans hWb.output,Nat.le_trans hWb.size q2.size,fun b hb=>(q2.block b (by rw[hWs];omega) (by simp)).trans (hWb.block b hb)⟩⟩
 have w1c:W.cell? ⟨w.heap.size,2,none⟩=some (.slice a n cap):=by simp[World.cell?,hW0]
 clear hW0 hW1 hWb hr hn hl;go_enter Tryz.func53,Tryz.ntmps53;go_upto_region 1 with fail
 rw[←hW];clear hW;go_upto_region 2 with (refine Ow.wpList_append_row W rfl (.const (.slice none 0 0)) (.tmp 4) 44 rfl w.heap.size 152 i0 _ 2 16 Tryz.underlying44 hi hz0 hz1 hz2 rfl (by decide) (.slice none 0 0) 0 [] rfl (World.ownsRow_nil _ _ _ _) 0 (.slice a n cap) (pairCs ps) rfl HW.out.2.2.2.2 n (by rw[pairCs_len,HM.out.1]) (pairCs_one ps) (by have:=HM.out.2;unfold maxLen;omega) (by have:=HM.out.2;omega) (by rw[HW.out.1];omega) ?_;intro v' w2 q1 q2;rw[List.nil_append,Nat.zero_add] at q1;obtain⟨a',c',rfl,f0,f1,f2,f3,f4⟩:=HF.out _ _ q1 q2;have HQ:=zH (zA q1 (zA f0 (zA f1 f4)));clear q1 q2 f0 f1 f4)
 generalize hw3:w2.setCell ⟨w.heap.size,2,none⟩ (.slice a' n c')=w3 at*;obtain⟨q1,f0,f1,f4⟩:=HQ.out;have g0:w3.heap[w.heap.size]? =some (.cells #[zi re,zi rv,.slice a' n c',zi ro,zi rr] 46):=by rw[←hw3];exact heap_setCell_same f0 2 _
 have g1:w3.heap[w.heap.size+1]? =some (.cells #[zi 0,zi 0,.slice none 0 0,zi 0,zi 0] 46):=by rw[←hw3,Below.heap_setCell _ _ _ _ (by simp)];exact f1
 have gb:Below w.heap.size w w3:=by rw[←hw3];exact⟨f4.os,f4.tape,f4.output,by simpa [World.setCell] using f4.size,fun b hb=>(Below.heap_setCell _ _ _ _ (by rintro rfl;simp at hb)).trans (f4.block b hb)⟩
 have go:w3.ownsRow w.heap.size 152 2 (.slice a' n c') n (pairCs ps):=by
  rw[←hw3];exact own_but q1 (But.setCell w2 ⟨w.heap.size,2,none⟩ _) f0 (by decide)
 have HG:=zH (zA g0 (zA (there_of g1) (zA gb (zA go g1))));have y0:w3.cell? ⟨w.heap.size,0,none⟩=some (zi re):=by simp[World.cell?,g0]
 have y1:w3.cell? ⟨w.heap.size,1,none⟩=some (zi rv):=by simp[World.cell?,g0]
 have y2:w3.cell? ⟨w.heap.size,2,none⟩=some (.slice a' n c'):=by simp[World.cell?,g0]
 have y3:w3.cell? ⟨w.heap.size,3,none⟩=some (zi ro):=by simp[World.cell?,g0]
 have y4:w3.cell? ⟨w.heap.size,4,none⟩=some (zi rr):=by simp[World.cell?,g0]
 clear q1 f0 f1 f4 g0 g1 gb go HQ HF f2 f3 w1c;go_wp2_with (refine wpList_store_mid rfl 46 (.tmp 2) (.tmp 7) rfl (w.heap.size+1) 0 #[zi re,zi rv,.slice a' n c',zi ro,zi rr] rfl rfl HG.out.2.1 (by kernel_rfl) (by simp[Value.oneCell']) ?_;generalize hws:World.setCells _ _ _ _=ws);have hfin:=heap_setCells5 HG.out.2.2.2.2 (zi re) (zi rv) (.slice a' n c') (zi ro) (zi rr);have hbut:=But.setCells (w.heap.size+1) [zi re,zi rv,.slice a' n c',zi ro,zi rr] 0 w3;rw[show w3.setCells (w.heap.size+1) 0 [zi re,zi rv,.slice a' n c',zi ro,zi rr]=ws from hws] at hbut hfin;refine bodyPost_ret (results_cell_row rfl _ _ (w.heap.size+1) 46 #[zi re,zi rv,.slice a' n c',zi ro,zi rr] _ _ rfl hfin Tryz.underlying46 rfl (by kernel_rfl)) rfl ?_;exact⟨a',c',rfl,own_but HG.out.2.2.2.1 hbut HG.out.2.2.2.2 (by decide),⟨hbut.os.trans HG.out.2.2.1.os,hbut.tape.trans HG.out.2.2.1.tape,hbut.output.trans HG.out.2.2.1.output,by rw[hbut.size];exact HG.out.2.2.1.size,fun b hb=>(hbut.block b (by omega)).trans (HG.out.2.2.1.block b hb)⟩⟩
theorem prow_of_own {L:Lab} {w:World} {base:Nat} {a:Option Addr} {n c:Nat} {xs:List Value} (h:w.ownsRow base 152 2 (.slice a n c) n xs) (hL:∀ b,base≤b→b<w.heap.size→L b=none):PRow L w (.slice a n c) xs:=by
 obtain⟨a',c',e,h1,h2,h3⟩:=Ow.own_form h;obtain⟨rfl,rfl⟩:a=a'∧c=c':=by simpa using e
 refine⟨⟨a,n,c,rfl,h.1,h1,by unfold maxLen;omega,?_⟩,?_⟩
 · rcases h.2 with ⟨h0,hn⟩|⟨g,cap',cur,hv,hb,hg,hnc,hcm,hcs,htake⟩
   · exact .inl (by first|exact h0|omega)
   · obtain⟨rfl,rfl⟩:a=some ⟨g,0,none⟩∧c=cap':=by simpa using hv
     refine .inr ⟨g,0,rfl,hL g (h.lt g rfl).1 (h.lt g rfl).2,(h.lt g rfl).2,fun j hj=>?_⟩;rw[Nat.zero_add];exact h.cellAt j hj
 · intro g off n' cap hv
   rcases h.2 with ⟨h0,hn⟩|⟨g',cap',cur,hv',hb,hg,hnc,hcm,hcs,htake⟩
   · obtain⟨_,rfl,_⟩:a=some ⟨g,off,none⟩∧n=n'∧c=cap:=by simpa using hv
     exact .inl (by first|exact h0|omega)
   · rw[hv'] at hv
     simp only[Value.slice.injEq,Option.some.injEq,Addr.mk.injEq,and_true] at hv;obtain⟨⟨rfl,_⟩,_⟩:=hv;exact .inr ⟨cur,hg⟩
theorem toList_madeCells_two (a b:Value) (n:Nat):(madeCells #[a,b] (n*2)).toList=two (List.replicate n (a,b)):=by
 apply List.ext_getElem?
 intro i;have e1:(madeCells #[a,b] (n*2)).toList[i]? =if i<n*2 then some (#[a,b][i % 2]!) else none:=by
  by_cases h:i<n*2
  · rw[if_pos h];simp[madeCells,h]
  · rw[if_neg h,List.getElem?_eq_none_iff];simp[madeCells];omega
 rw[e1]
 by_cases h:i<n*2
 · rw[if_pos h]
   have hr:(List.replicate n (a,b))[i / 2]? =some (a,b):=by rw[List.getElem?_replicate,if_pos (by omega)]
   obtain⟨h0,h1⟩:=two_get (List.replicate n (a,b)) (i / 2) hr
   rcases Nat.mod_two_eq_zero_or_one i with hm|hm
   · rw[show 2*(i / 2)=i by omega] at h0
     rw[h0,hm];rfl
   · rw[show 2*(i / 2)+1=i by omega] at h1
     rw[h1,hm];rfl
 · rw[if_neg h]
   symm
   rw[List.getElem?_eq_none_iff,two_length];simp;omega
theorem infoU:(Tryz.prog.info? 186).map (fun i=>(i.zero,i.size,i.bytes))=some (some (.agg #[zu 0]),1,8):=by kernel_rfl
theorem infoV:(Tryz.prog.info? 190).map (fun i=>(i.zero,i.size,i.bytes))=some (some (.agg #[zi 0,zi 0]),2,16):=by kernel_rfl
theorem infoG:(Tryz.prog.info? 243).map (fun i=>(i.zero,i.size,i.bytes))=some (some (.agg #[zi 0,.bool false]),2,16):=by kernel_rfl
theorem make_words (n:Nat) (h:n≤100000) (w:World):(Instr.makeSlice 179 (zi (n:Int)) (zi (n:Int))).run Tryz.prog w=.ok (.slice (some ⟨w.heap.size,0,none⟩) n n) (w.alloc (.cells (madeCells #[zu 0] n) 186)):=by
 obtain⟨i,hi,hz0,hz1,hz2⟩:=info_parts infoU;have:=run_make (P:=Tryz.prog) w 179 186 i _ Tryz.underlying179 hi hz0 .i64 .i64 n n (by omega) (Int.le_refl _) (by rw[hz2];omega) (by omega);rw[hz1] at this
 simpa [Value.cells] using this
theorem make_tags (n:Nat) (h:n≤100000) (w:World):(Instr.makeSlice 206 (zi (n:Int)) (zi (n:Int))).run Tryz.prog w=.ok (.slice (some ⟨w.heap.size,0,none⟩) n n) (w.alloc (.cells (madeCells #[zi 0,.bool false] (n*2)) 243)):=by
 obtain⟨i,hi,hz0,hz1,hz2⟩:=info_parts infoG;have:=run_make (P:=Tryz.prog) w 206 243 i _ Tryz.underlying206 hi hz0 .i64 .i64 n n (by omega) (Int.le_refl _) (by rw[hz2];omega) (by omega);rw[hz1] at this
 simpa [Value.cells] using this
theorem make_values (n:Nat) (h:n≤100000) (w:World):(Instr.makeSlice 103 (zi (n:Int)) (zi (n:Int))).run Tryz.prog w=.ok (.slice (some ⟨w.heap.size,0,none⟩) n n) (w.alloc (.cells (madeCells #[zi 0,zi 0] (n*2)) 190)):=by
 obtain⟨i,hi,hz0,hz1,hz2⟩:=info_parts infoV;have:=run_make (P:=Tryz.prog) w 103 190 i _ Tryz.underlying103 hi hz0 .i64 .i64 n n (by omega) (Int.le_refl _) (by rw[hz2];omega) (by omega);rw[hz1] at this
 simpa [Value.cells] using this
theorem arenaNew (n:Nat) (h1:1≤n) (h2:n≤100000) (w:World):Calls Tryz.prog 77 #[zi (n:Int)] w fun e w'=>e=.returned (.tuple #[.pointer (some ⟨w.heap.size+1,0,none⟩),zi 0])∧w'=(w.alloc (.cells (madeCells #[zu 0] n) 186)).alloc (.cells #[.slice (some ⟨w.heap.size,0,none⟩) n n,zi 0] 184):=by
 have hm:=fun w=>make_words n h2 w
 have d1:decide ((n:Int)<1)=false:=by simp;omega
 have d2:((n:Int)<1)=False:=by simp;omega
 have d3:decide ((100000:Int)<(n:Int))=false:=by simp;omega
 have d4:((100000:Int)<(n:Int))=False:=by simp;omega
 have d5:(n<1)=False:=by simp;omega
 have d6:(100000<n)=False:=by simp;omega
 have d7:(n=0)=False:=by simp;omega
 clear h1 h2;go_enter Tryz.func77,Tryz.ntmps77;go_wp2
 go_ret2
 exact⟨rfl,rfl⟩
theorem poolNew (n:Nat) (h1:1≤n) (h2:n≤4096) (w:World):Calls Tryz.prog 78 #[zi (n:Int),zi 65535] w fun e w'=>e=.returned (.tuple #[.pointer (some ⟨w.heap.size+1,0,none⟩),zi 0])∧w'=(w.alloc (.cells (madeCells #[zi 0,.bool false] (n*2)) 243)).alloc (.cells #[.slice (some ⟨w.heap.size,0,none⟩) n n,zi 65535,.slice none 0 0,zi 0,.int .u32 0,.int .i32 0,.int .u32 0] 208):=by
 have hm:=fun w=>make_tags n (by omega) w
 have d1:decide ((n:Int)<1)=false:=by simp;omega
 have d2:((n:Int)<1)=False:=by simp;omega
 have d3:decide ((4096:Int)<(n:Int))=false:=by simp;omega
 have d4:((4096:Int)<(n:Int))=False:=by simp;omega
 have d5:(n<1)=False:=by simp;omega
 have d6:(4096<n)=False:=by simp;omega
 have d7:(n=0)=False:=by simp;omega
 clear h1 h2;go_enter Tryz.func78,Tryz.ntmps78;go_wp2
 go_ret2
 exact⟨rfl,rfl⟩
theorem confOk (n l:Nat) (h1:1≤n) (h2:n≤256) (h3:1≤l) (h4:l≤1099511627776) (w:World):Calls Tryz.prog 76 #[.agg #[zi (n:Int),zu (l:Int)]] w fun e w'=>e=.returned (.bool true)∧Below w.heap.size w w':=by
 have hb:Below w.heap.size w (w.alloc (.cells #[zi (n:Int),zu (l:Int)] 66)):=(Below.refl _ _).alloc (Nat.le_refl _) _;have HB:=zH hb;have d1:decide ((1:Int)≤(n:Int))=true:=by simp;omega
 have d2:decide ((n:Int)≤256)=true:=by simp;omega
 have d3:decide ((1:Int)≤(l:Int))=true:=by simp;omega
 have d4:decide ((l:Int)≤1099511627776)=true:=by simp;omega
 have e1:((1:Int)≤(n:Int))=True:=by simp;omega
 have e2:((n:Int)≤256)=True:=by simp;omega
 have e3:((1:Int)≤(l:Int))=True:=by simp;omega
 have e4:((l:Int)≤1099511627776)=True:=by simp;omega
 have g1:(1≤n)=True:=by simp;omega
 have g2:(n≤256)=True:=by simp;omega
 have g3:(1≤l)=True:=by simp;omega
 have g5:(0<n)=True:=by simp;omega
 have g6:(0<l)=True:=by simp;omega
 clear h1 h2 h3 h4 hb;go_enter Tryz.func76,Tryz.ntmps76;go_wp2;go_ret;exact⟨rfl,HB.out⟩
def book0 (be ba bw bp bs bv:Nat):Book where
 L:=fun k=>if k=be then some .eng else if k=ba then some .arena else if k=bw then some .words else if k=bp then some .pool else if k=bs then some .tags else if k=bv then some .values else none
 be:=be
 ba:=ba
 bw:=bw
 bp:=bp
 bs:=bs
 bv:=bv
 bt:=fun _=>0
 bm:=fun _=>0
 bc:=fun _=>0
 bx:=fun _ _=>0
 vfree:=.slice none 0 0
 vtale:=.slice none 0 0
 vcut:=.slice none 0 0
 hcut:=false
 gcut:=0
 vsweep:=.nilFunc
 vkeys:=fun _=>.slice none 0 0
 vreads:=fun _=>.slice none 0 0
 vbonds:=fun _=>.slice none 0 0
 vpairs:=fun _=>.slice none 0 0
 vnext:=fun _=>.nilFunc
 vcall:=fun _=>.pointer none
 taleCs:=[]
 cutCs:=[]
 mp:=0
 mt:=fun _=>0
 vover:=fun _=>false
theorem getD_rep {α:Type} (n s:Nat) (d:α):(List.replicate n d).getD s d=d:=by
 rw[List.getD_eq_getElem?_getD,List.getElem?_replicate]
 split<;>rfl
theorem rep_new {w:World} {n l be ba bw bp bs bv:Nat} (hn:1≤n∧n≤256)
 (d:be≠ba∧be≠bw∧be≠bp∧be≠bs∧be≠bv∧ba≠bw∧ba≠bp∧ba≠bs∧ba≠bv∧bw≠bp∧bw≠bs∧bw≠bv∧bp≠bs∧bp≠bv∧bs≠bv)
 (h1:w.heap[be]? =some (.cells #[zi (n:Int),zu (l:Int),.pointer (some ⟨ba,0,none⟩),.pointer (some ⟨bp,0,none⟩),.slice (some ⟨bv,0,none⟩) n n,.pointer none,.pointer none,.pointer none,.pointer none,.pointer none,.pointer none,.pointer none,.pointer none,.pointer none,.pointer none,.pointer none,.pointer none,.pointer none,.pointer none,.pointer none,.pointer none,zi 0,zi 0,zi 0,.slice none 0 0,.nilFunc,zu 0,.slice none 0 0,.bool false] 111))
 (h2:w.heap[ba]? =some (.cells #[.slice (some ⟨bw,0,none⟩) (73+n*3+2000+1) (73+n*3+2000+1),zi 0] 184))
 (h3:w.heap[bw]? =some (.cells (madeCells #[zu 0] (73+n*3+2000+1)) 186))
 (h4:w.heap[bp]? =some (.cells #[.slice (some ⟨bs,0,none⟩) n n,zi 65535,.slice none 0 0,zi 0,.int .u32 0,.int .i32 0,.int .u32 0] 208))
 (h5:w.heap[bs]? =some (.cells (madeCells #[zi 0,.bool false] (n*2)) 243))
 (h6:w.heap[bv]? =some (.cells (madeCells #[zi 0,zi 0] (n*2)) 190)):Live (book0 be ba bw bp bs bv) (new n l) w:=by
 obtain⟨d1,d2,d3,d4,d5,d6,d7,d8,d9,d10,d11,d12,d13,d14,d15⟩:=d;have hto:∀ (a:Array Value) (l:List Value),a.toList=l→a=l.toArray:=fun a l h=>by rw[←h]
 have e3:=hto _ _ (toList_madeCells_one (zu 0) (73+n*3+2000+1));have e5:=hto _ _ (toList_madeCells_two (zi 0) (.bool false) n);have e6:=hto _ _ (toList_madeCells_two (zi 0) (zi 0) n);rw[e3] at h3;rw[e5] at h5;rw[e6] at h6;have htx:∀ s,(new n l).txns.getD s none=none:=fun s=>getD_rep 8 s none
 have hcl:∀ s,(new n l).calls.getD s none=none:=fun s=>getD_rep 8 s none
 have hm:Holds (book0 be ba bw bp bs bv).L w (memOf (book0 be ba bw bp bs bv) (new n l)):=by
  refine⟨fun r=>?_,fun b hb=>?_⟩
  · cases r
    case eng=>exact⟨by simp[book0],h1⟩
    case arena=>exact⟨by simp[book0,Ne.symm d1],by simpa [memOf,arenaCs,new,book0,i64] using h2⟩
    case words=>exact⟨by simp[book0,Ne.symm d2,Ne.symm d6],by simpa [memOf,new,book0,u64] using h3⟩
    case pool=>exact⟨by simp[book0,Ne.symm d3,Ne.symm d7,Ne.symm d10],by simpa [memOf,poolCs,onceCs,new,book0,i64] using h4⟩
    case tags=>exact⟨by simp[book0,Ne.symm d4,Ne.symm d8,Ne.symm d11,Ne.symm d13],by simpa [memOf,tagCs,new,book0,i64] using h5⟩
    case values=>exact⟨by simp[book0,Ne.symm d5,Ne.symm d9,Ne.symm d12,Ne.symm d14,Ne.symm d15],by simpa [memOf,valueCs,new,book0,i64] using h6⟩
    case free=>exact⟨World.ownsRow_nil _ 0 _ _,fun g hg=>by cases hg⟩
    case tale=>exact⟨World.ownsRow_nil _ 0 _ _,fun g hg=>by cases hg⟩
    case cut=>trivial
    case tmp=>trivial
    case txn s=>simp only[memOf,htx];trivial
    case map s=>simp only[memOf,htx];trivial
    case cell s key=>simp only[memOf,htx];trivial
    case keys s=>simp only[memOf,htx];trivial
    case reads s=>simp only[memOf,htx];trivial
    case bonds s=>simp only[memOf,htx];trivial
    case call s=>simp only[memOf,hcl];trivial
    case pairs s=>simp only[memOf,hcl];trivial
  · have l1:=lt_of h1
    have l2:=lt_of h2;have l3:=lt_of h3;have l4:=lt_of h4;have l5:=lt_of h5;have l6:=lt_of h6;show (if b=be then some Role.eng else _)=none;rw[if_neg (by omega),if_neg (by omega),if_neg (by omega),if_neg (by omega),if_neg (by omega),if_neg (by omega)]
 refine⟨⟨hm,rfl,hn,by simp[new],by simp[new],by simp[new],by simp[new],by simp[new]⟩,rfl,fun _=>rfl,fun s _ c hc=>absurd ((hcl s).symm.trans hc) (by simp),fun s _ _=>rfl,⟨rfl,.inl ⟨rfl,rfl,rfl⟩⟩⟩
theorem engineNew (n l:Nat) (h1:1≤n) (h2:n≤256) (h3:1≤l) (h4:l≤1099511627776) (w:World):Calls Tryz.prog 37 #[.agg #[zi (n:Int),zu (l:Int)]] w fun e w'=>∃ A,e=.returned (.tuple #[.pointer (some ⟨A.be,0,none⟩),zi 0])∧Live A (new n l) w'∧Grow (fun _=>none) w A.L w':=by
 have hco:=zH (confOk n l h1 h2 h3 h4);have han:=zH (fun w=>arenaNew (73+n*3+2000+1) (by omega) (by omega) w);have hpn:=zH (fun w=>poolNew n h1 (by omega) w);have hmv:=fun w=>make_values n (by omega) w
 have ea:((73+n*3+2000+1:Nat):Int)=73+(n:Int)*3+2000+1:=by omega
 rw[ea] at han;have n1:IntKind.i64.wrap ((n:Int)*3)=(n:Int)*3:=by rw[IntKind.wrap_i64];omega
 have n2:IntKind.i64.wrap (73+(n:Int)*3)=73+(n:Int)*3:=by rw[IntKind.wrap_i64];omega
 have n3:IntKind.i64.wrap (73+(n:Int)*3+2000)=73+(n:Int)*3+2000:=by rw[IntKind.wrap_i64];omega
 have n4:IntKind.i64.wrap (73+(n:Int)*3+2000+1)=73+(n:Int)*3+2000+1:=by rw[IntKind.wrap_i64];omega
 have HN:=zH (zA h1 h2);have x0:(w.alloc (.cells #[zi (n:Int),zu (l:Int)] 66)).cell? ⟨w.heap.size,0,none⟩=some (zi (n:Int)):=by rw[cell_of_row _ _ 0 _ _ _ (heap_alloc_new w _)];rfl
 have x1:(w.alloc (.cells #[zi (n:Int),zu (l:Int)] 66)).cell? ⟨w.heap.size,1,none⟩=some (zu (l:Int)):=by rw[cell_of_row _ _ 1 _ _ _ (heap_alloc_new w _)];rfl
 have HC:Hid (∀ w1,Below (w.alloc (.cells #[zi (n:Int),zu (l:Int)] 66)).heap.size (w.alloc (.cells #[zi (n:Int),zu (l:Int)] 66)) w1→w1.cell? ⟨w.heap.size,0,none⟩=some (zi (n:Int))∧w1.cell? ⟨w.heap.size,1,none⟩=some (zu (l:Int))∧w.heap.size<w1.heap.size):=by
  intro w1 hb;have hs:=size_alloc1 w (.cells #[zi (n:Int),zu (l:Int)] 66);have hz:=hb.size;exact⟨(hb.cell (p:=⟨w.heap.size,0,none⟩) (by rw[hs];exact Nat.lt_succ_self _)).trans x0,(hb.cell (p:=⟨w.heap.size,1,none⟩) (by rw[hs];exact Nat.lt_succ_self _)).trans x1,by omega⟩
 have HB2:Hid (∀ (w1 w2:World) (a b:Obj),w2=(w1.alloc a).alloc b→w.heap.size<w1.heap.size→w1.cell? ⟨w.heap.size,0,none⟩=some (zi (n:Int))→w1.cell? ⟨w.heap.size,1,none⟩=some (zu (l:Int))→w2.cell? ⟨w.heap.size,0,none⟩=some (zi (n:Int))∧w2.cell? ⟨w.heap.size,1,none⟩=some (zu (l:Int))∧w.heap.size<w2.heap.size):=by
  rintro w1 w2 a b rfl hl k0 k1;have hb:Below w1.heap.size w1 ((w1.alloc a).alloc b):=((Below.refl _ _).alloc (Nat.le_refl _) _).alloc (by simp) _;exact⟨(hb.cell (p:=⟨w.heap.size,0,none⟩) hl).trans k0,(hb.cell (p:=⟨w.heap.size,1,none⟩) hl).trans k1,Nat.lt_of_lt_of_le hl hb.size⟩
 clear h1 h2 h3 h4 ea;go_enter Tryz.func37,Tryz.ntmps37;go_wp2_with (first|(go_at_call 76;refine (hco.out _).mono ?_;rintro e w1 ⟨rfl,hb⟩;obtain⟨y0,y1,hsz⟩:=HC.out w1 hb;have HB:=zH (zA hb hsz);clear hb hsz)|(go_at_call 77;refine (han.out _).mono ?_;rintro e w2 ⟨rfl,hw2⟩;obtain⟨z0,z1,hl2⟩:=HB2.out w1 w2 _ _ hw2 HB.out.2 y0 y1;have H2:=zH (zA hw2 hl2);clear hw2 hl2)|(go_at_call 78;refine (hpn.out _).mono ?_;rintro e w3 ⟨rfl,hw3⟩;obtain⟨u0,u1,hl3⟩:=HB2.out w2 w3 _ _ hw3 H2.out.2 z0 z1;have H3:=zH (zA hw3 hl3);clear hw3 hl3));have v0:(w3.alloc (.cells (madeCells #[zi 0,zi 0] (n*2)) 190)).cell? ⟨w.heap.size,0,none⟩=some (zi (n:Int)):=by rw[World.cell?_alloc_past _ _ _ H3.out.2];exact u0
 have v1:(w3.alloc (.cells (madeCells #[zi 0,zi 0] (n*2)) 190)).cell? ⟨w.heap.size,1,none⟩=some (zu (l:Int)):=by rw[World.cell?_alloc_past _ _ _ H3.out.2];exact u1
 go_region
 go_wp2_with fail
 go_ret2
 obtain⟨hw2,_⟩:=H2.out;obtain⟨hw3,_⟩:=H3.out;obtain⟨hb1,hl1⟩:=HB.out;have two_old:∀ (w:World) (a b:Obj),((w.alloc a).alloc b).heap[w.heap.size]? =some a:=fun w a b=>(Below.heap_alloc _ _ _ (by simp)).trans (heap_alloc_new w a)
 have s2:w2.heap.size=w1.heap.size+2:=by rw[hw2];simp
 have s3:w3.heap.size=w2.heap.size+2:=by rw[hw3];simp
 have bel:∀ (w:World) (a b:Obj),Below w.heap.size w ((w.alloc a).alloc b):=fun w a b=>((Below.refl _ _).alloc (Nat.le_refl _) _).alloc (by simp) _
 have f2a:=two_old w1 (.cells (madeCells #[zu 0] (73+n*3+2000+1)) 186) (.cells #[.slice (some ⟨w1.heap.size,0,none⟩) (73+n*3+2000+1) (73+n*3+2000+1),zi 0] 184);have f2b:=heap_alloc2_new w1 (.cells (madeCells #[zu 0] (73+n*3+2000+1)) 186) (.cells #[.slice (some ⟨w1.heap.size,0,none⟩) (73+n*3+2000+1) (73+n*3+2000+1),zi 0] 184);rw[←hw2] at f2a f2b;have f3a:=two_old w2 (.cells (madeCells #[zi 0,.bool false] (n*2)) 243) (.cells #[.slice (some ⟨w2.heap.size,0,none⟩) n n,zi 65535,.slice none 0 0,zi 0,.int .u32 0,.int .i32 0,.int .u32 0] 208);have f3b:=heap_alloc2_new w2 (.cells (madeCells #[zi 0,.bool false] (n*2)) 243) (.cells #[.slice (some ⟨w2.heap.size,0,none⟩) n n,zi 65535,.slice none 0 0,zi 0,.int .u32 0,.int .i32 0,.int .u32 0] 208);rw[←hw3] at f3a f3b;have b12:Below w1.heap.size w1 w2:=by rw[hw2];exact bel _ _ _
 have b23:Below w2.heap.size w2 w3:=by rw[hw3];exact bel _ _ _
 have b34:=(bel w3 (.cells (madeCells #[zi 0,zi 0] (n*2)) 190) (.cells #[zi (n:Int),zu (l:Int),.pointer (some ⟨w1.heap.size+1,0,none⟩),.pointer (some ⟨w2.heap.size+1,0,none⟩),.slice (some ⟨w3.heap.size,0,none⟩) n n,.pointer none,.pointer none,.pointer none,.pointer none,.pointer none,.pointer none,.pointer none,.pointer none,.pointer none,.pointer none,.pointer none,.pointer none,.pointer none,.pointer none,.pointer none,.pointer none,zi 0,zi 0,zi 0,.slice none 0 0,.nilFunc,zu 0,.slice none 0 0,.bool false] 111)).drew;have b0w:Below w.heap.size w w1:=((Below.refl _ _).alloc (Nat.le_refl _) _).trans (hb1.mono (by simp));have f4a:=two_old w3 (.cells (madeCells #[zi 0,zi 0] (n*2)) 190) (.cells #[zi (n:Int),zu (l:Int),.pointer (some ⟨w1.heap.size+1,0,none⟩),.pointer (some ⟨w2.heap.size+1,0,none⟩),.slice (some ⟨w3.heap.size,0,none⟩) n n,.pointer none,.pointer none,.pointer none,.pointer none,.pointer none,.pointer none,.pointer none,.pointer none,.pointer none,.pointer none,.pointer none,.pointer none,.pointer none,.pointer none,.pointer none,.pointer none,zi 0,zi 0,zi 0,.slice none 0 0,.nilFunc,zu 0,.slice none 0 0,.bool false] 111);have f4b:=heap_alloc2_new w3 (.cells (madeCells #[zi 0,zi 0] (n*2)) 190) (.cells #[zi (n:Int),zu (l:Int),.pointer (some ⟨w1.heap.size+1,0,none⟩),.pointer (some ⟨w2.heap.size+1,0,none⟩),.slice (some ⟨w3.heap.size,0,none⟩) n n,.pointer none,.pointer none,.pointer none,.pointer none,.pointer none,.pointer none,.pointer none,.pointer none,.pointer none,.pointer none,.pointer none,.pointer none,.pointer none,.pointer none,.pointer none,.pointer none,zi 0,zi 0,zi 0,.slice none 0 0,.nilFunc,zu 0,.slice none 0 0,.bool false] 111);refine⟨book0 (w3.heap.size+1) (w1.heap.size+1) w1.heap.size (w2.heap.size+1) w2.heap.size w3.heap.size,rfl,?_,?_⟩
 · refine rep_new HN.out (by omega) f4b ?_ ?_ ?_ ?_ f4a
   · exact (b34.block _ (by omega)).trans ((b23.block _ (by omega)).trans f2b)
   · exact (b34.block _ (by omega)).trans ((b23.block _ (by omega)).trans f2a)
   · exact (b34.block _ (by omega)).trans f3b
   · exact (b34.block _ (by omega)).trans f3a
 · have hall:=((b0w.trans (b12.mono (by omega))).trans (b23.mono (by omega))).trans (b34.mono (by omega))
   refine⟨hall.os,hall.tape,hall.output,hall.size,fun b hb _=>hall.block b hb,fun b hb=>?_,fun b hb e=>by cases e⟩;show (if b=w3.heap.size+1 then some Role.eng else _)=none;rw[if_neg (by omega),if_neg (by omega),if_neg (by omega),if_neg (by omega),if_neg (by omega),if_neg (by omega)]
end Go.Proofs.YthicolbbmjfkfaaGreat.Em
namespace Go.Proofs.YthicolbbmjfkfaaGreat.Em
open Go.ChangeShapes Go.WideShapes Go.ChangeAt Go.RowKit Go.Deep
set_option linter.unusedVariables false
set_option linter.unusedSimpArgs false
set_option maxRecDepth 100000
set_option maxHeartbeats 1600000
structure Pk where
 kd:Int
 s:Int
 l:Int
 k:Int
 key:Int
 hi:Int
 v:Int
 deriving Inhabited
def pkCs (p:Pk):List Value:=[zi p.kd,zi p.s,zi p.l,zi p.k,zi p.key,zi p.hi,zi p.v]
def pkV (p:Pk):Value:=.agg (pkCs p).toArray
def PkOk (p:Pk):Prop:=∀ z∈[p.kd,p.s,p.l,p.k,p.key,p.hi,p.v],-9223372036854775808≤z∧z<9223372036854775808
def flatP (l:List Pk):List Value:=l.flatMap pkCs
theorem flatP_length (l:List Pk):(flatP l).length=l.length*7:=by
 induction l with
 |nil=>rfl
 |cons a l ih=>show (pkCs a++flatP l).length=_;rw[List.length_append,ih,List.length_cons];show 7+_=_;omega
section
variable {H:Type} {enc:TypeId×Value→H} {w:World} {base:Nat} {spare:Nat→Bool} {held:Bool}
theorem trod_i64 {fuel:Nat} {c:Value} {x:DataW H×List MemPlace} (h:DataW.trod enc Tryz.prog w base spare held fuel 3 [c]=some x):∃ a,c=zi a∧-9223372036854775808≤a∧a<9223372036854775808:=by
 obtain⟨a,e,_,hw⟩:=DataW.trod_int Tryz.underlying3 h;simp at e;subst e;have:=bounds_i64 hw;exact⟨a,rfl,by omega,by omega⟩
theorem trod_op {fuel:Nat} {c0 c1 c2 c3:Value} {x:DataW H×List MemPlace} (h:DataW.trod enc Tryz.prog w base spare held fuel 27 [c0,c1,c2,c3]=some x):
 ∃ a0 a1 a2 a3,c0=zi a0∧c1=zi a1∧c2=zi a2∧c3=zi a3∧∀ z∈[a0,a1,a2,a3],-9223372036854775808≤z∧z<9223372036854775808:=by
 have hi:Tryz.prog.cellsOf 3=1:=by kernel_rfl
 obtain⟨xs,n,_,_,_,hl,hf⟩:=DataW.trod_struct Tryz.underlying27 h;obtain⟨y,hy⟩:∃ y,xs=y:=⟨_,rfl⟩
 match xs,hl with
 |[y0,y1,y2,y3],_=>
  have f0:DataW.trod enc Tryz.prog w base spare held n 3 (([c0,c1,c2,c3].drop 0).take (Tryz.prog.cellsOf 3))=some y0:=hf 0 _ rfl;rw[hi] at f0;have f1:DataW.trod enc Tryz.prog w base spare held n 3 (([c0,c1,c2,c3].drop 1).take (Tryz.prog.cellsOf 3))=some y1:=hf 1 _ rfl;rw[hi] at f1;have f2:DataW.trod enc Tryz.prog w base spare held n 3 (([c0,c1,c2,c3].drop 2).take (Tryz.prog.cellsOf 3))=some y2:=hf 2 _ rfl;rw[hi] at f2;have f3:DataW.trod enc Tryz.prog w base spare held n 3 (([c0,c1,c2,c3].drop 3).take (Tryz.prog.cellsOf 3))=some y3:=hf 3 _ rfl;rw[hi] at f3;obtain⟨a0,rfl,w0⟩:=trod_i64 f0;obtain⟨a1,rfl,w1⟩:=trod_i64 f1;obtain⟨a2,rfl,w2⟩:=trod_i64 f2;obtain⟨a3,rfl,w3⟩:=trod_i64 f3;refine⟨a0,a1,a2,a3,rfl,rfl,rfl,rfl,?_⟩;intro z hz;simp at hz
  rcases hz with rfl|rfl|rfl|rfl<;>assumption
theorem trod_pick {fuel:Nat} {cs:List Value} {x:DataW H×List MemPlace} (h:DataW.trod enc Tryz.prog w base spare held fuel 59 cs=some x):∃ e:Pk,cs=pkCs e∧PkOk e:=by
 have hi:Tryz.prog.cellsOf 3=1:=by kernel_rfl
 have ho:Tryz.prog.cellsOf 27=4:=by kernel_rfl
 have he:Tryz.prog.cellsOf 59=7:=by kernel_rfl
 obtain⟨xs,n,_,_,hc,hl,hf⟩:=DataW.trod_struct Tryz.underlying59 h;rw[he] at hc
 match cs,hc with
 |[c0,c1,c2,c3,c4,c5,c6],_=>
  match xs,hl with
  |[y0,y1,y2,y3],_=>
   have f0:DataW.trod enc Tryz.prog w base spare held n 3 (([c0,c1,c2,c3,c4,c5,c6].drop 0).take (Tryz.prog.cellsOf 3))=some y0:=hf 0 _ rfl;rw[hi] at f0;have f1:DataW.trod enc Tryz.prog w base spare held n 3 (([c0,c1,c2,c3,c4,c5,c6].drop 1).take (Tryz.prog.cellsOf 3))=some y1:=hf 1 _ rfl;rw[hi] at f1;have f2:DataW.trod enc Tryz.prog w base spare held n 3 (([c0,c1,c2,c3,c4,c5,c6].drop 2).take (Tryz.prog.cellsOf 3))=some y2:=hf 2 _ rfl;rw[hi] at f2;have f3:DataW.trod enc Tryz.prog w base spare held n 27 (([c0,c1,c2,c3,c4,c5,c6].drop 3).take (Tryz.prog.cellsOf 27))=some y3:=hf 3 _ rfl;rw[ho] at f3;obtain⟨a0,rfl,w0⟩:=trod_i64 f0;obtain⟨a1,rfl,w1⟩:=trod_i64 f1;obtain⟨a2,rfl,w2⟩:=trod_i64 f2;obtain⟨a3,a4,a5,a6,rfl,rfl,rfl,rfl,w3⟩:=trod_op f3;refine⟨⟨a0,a1,a2,a3,a4,a5,a6⟩,rfl,?_⟩;intro z hz;simp at hz
   rcases hz with rfl|rfl|rfl|rfl|rfl|rfl|rfl
   · exact w0
   · exact w1
   · exact w2
   · exact w3 _ (by simp)
   · exact w3 _ (by simp)
   · exact w3 _ (by simp)
   · exact w3 _ (by simp)
theorem open_pick {r:Reach} {b0:Nat} {v:Value} {d:DataW H} {p:List MemPlace} (hv:Value.okWide Tryz.prog w r b0 59 v) (h:DataW.Trod enc Tryz.prog w base spare held 59 v d p):∃ e:Pk,v=pkV e∧PkOk e:=by
 obtain⟨cs,rfl,_⟩:=okWide_struct Tryz.underlying59 hv;obtain⟨fuel,hf⟩:=h;obtain⟨e,he,hi⟩:=trod_pick hf;refine⟨e,?_,hi⟩;have:cs.toList=pkCs e:=he;show Value.agg cs=_;rw[show cs=(pkCs e).toArray from by rw[←this]];rfl
theorem flatP_get (f:Nat→Pk) (n:Nat):∀ i,i<n→∀ j,j<7→(flatP ((List.range n).map f))[i*7+j]? =(pkCs (f i))[j]? :=by
 intro i hi j hj;have key:∀ (l:List Pk) (i:Nat) (e:Pk),l[i]? =some e→(flatP l)[i*7+j]? =(pkCs e)[j]? :=by
  intro l
  induction l with
  |nil=>intro i e h;simp at h
  |cons e0 l ih=>
   intro i e h;show (pkCs e0++flatP l)[i*7+j]? =_
   cases i with
   |zero=>
    simp at h;subst h;rw[List.getElem?_append_left (by show 0*7+j<7;omega)];simp
   |succ i=>
    rw[List.getElem?_append_right (by show 7≤_;omega)];rw[show (i+1)*7+j - (pkCs e0).length=i*7+j from by show _ - 7=_;omega];exact ih i e (by simpa using h)
 exact key _ i (f i) (by simp[hi])
theorem open_picks {r:Reach} {b0:Nat} {v:Value} {d:DataW H} {p:List MemPlace} (hv:Value.okWide Tryz.prog w r b0 56 v) (h:DataW.Trod enc Tryz.prog w base spare held 56 v d p):
 ∃ es:List Pk,Ow.Row w 0 7 v (flatP es)∧∀ e∈es,PkOk e:=by
 have hc7:Tryz.prog.cellsOf 59=7:=by kernel_rfl
 obtain⟨a,len,cap,rfl⟩:=okWide_slice Tryz.underlying56 hv;obtain⟨fuel,hf⟩:=h
 rcases open_slice Tryz.underlying56 hf with ⟨h0,_⟩|⟨ad,len',cap',m,n,D,Pl,hcs,hb,hl,hm,hmm,_,hi⟩
 · simp[Value.cells] at h0
   obtain⟨rfl,rfl,rfl⟩:=h0;exact⟨[],⟨none,0,0,rfl,rfl,by omega,by unfold maxLen;omega,.inl rfl⟩,by simp⟩
 · simp[Value.cells] at hcs
   obtain⟨rfl,rfl,rfl⟩:=hcs;have hle:len≤m:=by rw[hmm];split<;>omega
   have hex:∀ i,∃ e:Pk,i<len→(∀ j,j<7→w.cell? (ad.add (i*7+j))=(pkCs e)[j]?)∧PkOk e:=by
    intro i
    by_cases hil:i<len
    · obtain⟨cs',hcells,htr⟩:=hi i (by omega)
      rw[hc7] at hcells;obtain⟨e,rfl,he⟩:=trod_pick htr;obtain⟨_,_,hat⟩:=World.cells?_some hcells;refine⟨e,fun _=>⟨fun j hj=>?_,he⟩⟩;rw[←add_add];exact hat j hj
    · exact⟨(default:Pk),fun h=>absurd h hil⟩
   obtain⟨f,hf'⟩:=Classical.axiomOfChoice hex;refine⟨(List.range len).map f,⟨some ad,len,cap,rfl,by rw[flatP_length];simp,hl,hm,?_⟩,?_⟩
   · by_cases h0:len=0
     · exact .inl h0
     · right
       obtain⟨b,off,spot⟩:=ad;have hc0:=(hf' 0 (by omega)).1 0 (by omega);have hcell0:w.cell? ((⟨b,off,spot⟩:Addr).add (0*7+0))=some (zi (f 0).kd):=hc0;have hspot:spot=none:=by simpa [Addr.add] using World.cell?_spot hcell0
       subst hspot;have hadd:∀ i,(⟨b,off,none⟩:Addr).add i=⟨b,off+i,none⟩:=by
        intro i;unfold Addr.add;split
        · rename_i h;subst h;rfl
        · rfl
       refine⟨b,off,rfl,by omega,World.block_lt_of_cell? w ⟨b,off,none⟩ (by simpa [Addr.add] using hcell0),fun j hj=>?_⟩;have hd:j=(j / 7)*7+j % 7:=by omega
       rw[←hadd j,hd,flatP_get f len (j / 7) (by omega) (j % 7) (by omega)];exact (hf' (j / 7) (by omega)).1 (j % 7) (by omega)
   · intro e he
     rw[List.mem_map] at he;obtain⟨i,hi',rfl⟩:=he;exact (hf' i (by simpa using hi')).2
end
end Go.Proofs.YthicolbbmjfkfaaGreat.Em
namespace Go.Proofs.YthicolbbmjfkfaaGreat.Plan
open Go.ChangeShapes Go.WideShapes Go.ChangeAt Go.RowKit
set_option linter.unusedVariables false
set_option linter.unusedSimpArgs false
set_option maxRecDepth 100000
set_option maxHeartbeats 1600000
def RDecRel (w:World) (bs:List Int) (i v:Value) (wr:World):Prop:=
 ∃ k acc,Told bs k acc∧i=.int .i64 (5*(k:Int))∧wr.ownsRow w.heap.size 71 7 v k (flatE acc)∧Below w.heap.size w wr
set_option maxHeartbeats 2000000 in
theorem rdecode_any (a:Option Addr) (len cap:Nat) (bs:List Int) (w:World) (hbs:Bytes w a len cap bs) (hmax:len≤4611686018427387904):
 Calls Tryz.prog 32 #[.slice a len cap] w fun e w'=>∃ v,e=.returned v∧Ow.Row w' w.heap.size 7 v (flatE (dec 2000 bs))∧Below w.heap.size w w':=by
 have hlen:=hbs.1;have HL:=Lib.hid hlen;have HB0:=Lib.hid hbs;clear hlen hbs;go_enter Tryz.func32,Tryz.ntmps32;go_wp2
 go_loopw [3,4] (fun v i wr=>RDecRel w bs i v wr) (fun _ i _=>len+5 - (intOf i).toNat)
 case atStart=>exact⟨0,[],Told.start bs,rfl,World.ownsRow_nil _ _ _ _,Below.refl _ _⟩
 case round=>
  obtain⟨k,acc,ht,rfl,hown,hbel⟩:=hrel;obtain⟨a2,cap2,rfl,hn2,hm2,hrow⟩:=Ow.own_form hown
  by_cases hstop:len≤5*k∨k=2000
  · have hfull:=ht.full (by have:=HL.out;omega)
    rw[hfull] at hrow;have hrow2:Ow.Row wr w.heap.size 7 (.slice a2 k cap2) (flatE (dec 2000 bs))∧Below w.heap.size w wr:=by
     obtain⟨a',n',cap',e1,e2,e3,e4,e5⟩:=hrow;simp only[Value.slice.injEq] at e1;obtain⟨rfl,rfl,rfl⟩:=e1;exact⟨⟨a2,k,cap2,rfl,e2,hn2,by unfold maxLen;omega,e5⟩,hbel⟩
    have HF:=Lib.hid hrow2;clear ht hown hfull hrow hrow2 hbel
    by_cases hs:len≤5*k
    · have hs':(len:Int)≤5*(k:Int):=by omega
      go_wp2;go_ret;exact⟨_,rfl,HF.out⟩
    · have hk:k=2000:=by omega
      have hs':5*(2000:Int)<(len:Int):=by omega
      subst hk;go_wp2;go_ret;exact⟨_,rfl,HF.out⟩
  · have hr0:5*k<len:=by omega
    have hk0:k<2000:=by have:=ht.2.1;omega
    have hk1:(k:Int)<2000:=by omega
    have hi1:5*(k:Int)<(len:Int):=by omega
    have hBr:=(HB0.out).below hbel;obtain⟨hb1,hb2,hb3,hb4⟩:=hBr
    rcases hb4 with hb4|⟨B,off,rfl,hBl,hcell⟩
    · omega
    have HT:=Lib.hid (ht.step hk0 (by omega));have hcap1:5*(k:Int)≤(cap:Int):=by omega
    have hle1:5*(k:Int)≤(len:Int):=by omega
    have hne2:¬ cap=5*k:=by omega
    by_cases h5:5≤len - 5*k
    · have cc:∀ j,j<5→wr.cell? ⟨B,off+5*k+j,none⟩=some (.int .u8 ((bs.drop (5*k)).getD j 0))∧0≤(bs.drop (5*k)).getD j 0∧(bs.drop (5*k)).getD j 0<256:=by
       intro j hj;rw[getD_drop,Nat.add_assoc];exact hcell (5*k+j) (by omega)
      have c0:=cc 0 (by omega);have c1:=cc 1 (by omega);have c2:=cc 2 (by omega);have c3:=cc 3 (by omega);have c4:=cc 4 (by omega);rw[Nat.add_zero] at c0;have HO:=rone_any B (off+5*k) (len - 5*k) (cap - 5*k) h5 (by omega) _ _ _ _ _ c0.2.1 c0.2.2 c1.2.1 c1.2.2 c2.2.1 c2.2.2 c3.2.1 c3.2.2 c4.2.1 c4.2.2 wr c0.1 c1.1 c2.1 c3.1 c4.1;have hh:hdE (bs.drop (5*k))=enE ((bs.drop (5*k)).getD 0 0) ((bs.drop (5*k)).getD 1 0) ((bs.drop (5*k)).getD 2 0) ((bs.drop (5*k)).getD 3 0) ((bs.drop (5*k)).getD 4 0):=by
       unfold hdE;rw[if_neg (by rw[List.length_drop];omega)]
      rw[←hh] at HO;generalize hdE (bs.drop (5*k))=E at*;have HI:=Lib.hid HO;clear HO hh c0 c1 c2 c3 c4 cc hcell ht hb1 hrow hstop h5;obtain⟨ek,es,elv,eok,eoy,eoh,eov⟩:=E;go_wp2_with fail;refine HI.out.mono ?_;rintro e w1 ⟨rfl,hq⟩;have hbel1:=Ow.below_base hbel hq;have hown1:=Ow.own_below hown hq;clear hown hbel hq;go_wp2_with (at_builtin;refine append_E _ rfl (.tmp 28) (.tmp 30) rfl w.heap.size (.slice a2 k cap2) k (flatE acc) rfl ((hown1.alloc _).alloc _) ⟨w1.heap.size+1,0,none⟩ 1 (cellsE ⟨ek,es,elv,eok,eoy,eoh,eov⟩) rfl rfl ?c1 (oneCell_E _) (by omega) ?c5 ?_)
      case c1=>exact Ow.new_row (w1.alloc _) (cellsE ⟨ek,es,elv,eok,eoy,eoh,eov⟩) _ (w1.heap.size+1) (by simp)
      case c5=>have:=hbel1.size;simp;omega
      intro v' w2 hown2 hg2;have hbel2:Below w.heap.size w w2:=Ow.grown_below ((hown1.alloc _).alloc _) ((hbel1.alloc hbel1.size _).alloc (by have:=hbel1.size;simp;omega) _) (by have:=hbel1.size;simp;omega) hg2;rw[←flatE_snoc] at hown2;clear hg2 hown1 hbel1;go_wp2_with fail;exact⟨⟨k+1,_,HT.out,by go_num,hown2,hbel2⟩,by simp[intOf];omega⟩
    · have hh:hdE (bs.drop (5*k))=badE:=by unfold hdE;rw[if_pos (by rw[List.length_drop];omega)]
      rw[hh] at HT;have HS:=Lib.hid (fun w=>rone_short (some ⟨B,off+5*k,none⟩) (len - 5*k) (cap - 5*k) (by omega) w);clear hh hcell ht hb1 hrow hstop h5;go_wp2_with (first|(go_at_call 60;refine (HS.out _).mono ?_;rintro e w' ⟨rfl,rfl⟩)|(at_builtin;refine append_E _ rfl (.tmp 28) (.tmp 30) rfl w.heap.size (.slice a2 k cap2) k (flatE acc) rfl ?own _ 1 (cellsE badE) rfl rfl ?c1 (oneCell_E _) (by omega) ?c5 ?_))
      case own=>exact Ow.own_below hown (by (repeat (first|(with_reducible exact Below.refl _ _)|((with_reducible refine Below.setCell ?_ ?_ _);rotate_left;focus (first|(simp;done)|(simp;omega)))|(with_reducible refine below_drewN ?_ _)|(with_reducible refine Below.drew ?_)|((with_reducible refine Below.alloc ?_ ?_ _);rotate_left;focus (first|(simp;done)|(simp;omega))))))
      case c5=>have:=hbel.size;simp;omega
      case c1=>exact Ow.new_row _ (cellsE badE) _ _ (by simp)
      intro v' w2 hown2 hg2;have hbel2:Below w.heap.size w w2:=Ow.grown_below (Ow.own_below hown (by (repeat (first|(with_reducible exact Below.refl _ _)|((with_reducible refine Below.setCell ?_ ?_ _);rotate_left;focus (first|(simp;done)|(simp;omega)))|(with_reducible refine below_drewN ?_ _)|(with_reducible refine Below.drew ?_)|((with_reducible refine Below.alloc ?_ ?_ _);rotate_left;focus (first|(simp;done)|(simp;omega))))))) (hbel.trans ((show Below wr.heap.size wr _ by (repeat (first|(with_reducible exact Below.refl _ _)|((with_reducible refine Below.setCell ?_ ?_ _);rotate_left;focus (first|(simp;done)|(simp;omega)))|(with_reducible refine below_drewN ?_ _)|(with_reducible refine Below.drew ?_)|((with_reducible refine Below.alloc ?_ ?_ _);rotate_left;focus (first|(simp;done)|(simp;omega)))))).mono hbel.size)) (by have:=hbel.size;simp;omega) hg2;rw[←flatE_snoc] at hown2;clear hg2 hown hbel;go_wp2_with fail;exact⟨⟨k+1,_,HT.out,by go_num,hown2,hbel2⟩,by simp[intOf];omega⟩
theorem row_cell {w:World} {g off:Nat} {l:List En} (h:∀ j,j<l.length*7→w.cell? ⟨g,off+j,none⟩=(flatE l)[j]?) (i:Nat) (hi:i<l.length) (d:En):
 ∀ f,f<7→w.cell? ⟨g,off+(i*7+f),none⟩=(cellsE (l.getD i d))[f]? :=by
 intro f hf;rw[h (i*7+f) (by omega)];have key:∀ (l:List En) (i:Nat),i<l.length→(flatE l)[i*7+f]? =(cellsE (l.getD i d))[f]? :=by
  intro l
  induction l with
  |nil=>intro i hi;simp at hi
  |cons e l ih=>
   intro i hi;show (cellsE e++flatE l)[i*7+f]? =_
   cases i with
   |zero=>
    rw[List.getElem?_append_left (by show 0*7+f<7;omega)];simp
   |succ i=>
    rw[List.getElem?_append_right (by show 7≤_;omega)];rw[show (i+1)*7+f - (cellsE e).length=i*7+f from by show _ - 7=_;omega];rw[ih i (by simpa using hi)];simp
 exact key l i hi
end Go.Proofs.YthicolbbmjfkfaaGreat.Plan
namespace Go.Proofs.YthicolbbmjfkfaaGreat.Sl
open Go.ChangeShapes Go.WideShapes Go.ChangeAt Go.RowKit
set_option linter.unusedVariables false
set_option linter.unusedSimpArgs false
set_option maxRecDepth 100000
set_option maxHeartbeats 1600000
def IsRow (k:IntKind) (w:World) (a:Option Addr) (len cap:Nat) (zs:List Int):Prop:=
 (a=none∧len=0∧cap=0∧zs=[])∨
 ∃ x,a=some x∧len≤cap∧cap≤maxLen∧zs.length=cap∧(∀ i,i<zs.length→w.cell? (x.add i)=some (.int k (zs.getD i 0)))∧∀ n∈zs,(Lit.int k n).wf=true
theorem IsRow.plain {k:IntKind} {w:World} {a:Option Addr} {len cap:Nat} {zs:List Int} (h:IsRow k w a len cap zs):
 (zs.take len).length=len∧len≤cap∧cap≤9223372036854775807∧(len=0∨∃ B off,a=some ⟨B,off,none⟩∧B<w.heap.size∧∀ i,i<len→w.cell? ⟨B,off+i,none⟩=some (.int k ((zs.take len).getD i 0))∧(Lit.int k ((zs.take len).getD i 0)).wf=true):=by
 rcases h with ⟨rfl,rfl,rfl,rfl⟩|⟨x,rfl,hl,hm,hz,hcell,hwf⟩
 · exact⟨rfl,by omega,by omega,.inl rfl⟩
 · unfold maxLen at hm
   refine⟨by rw[List.length_take];omega,hl,hm,?_⟩
   by_cases h0:len=0
   · exact .inl h0
   · right
     obtain⟨b,off,spot⟩:=x;have hc:=hcell 0 (by omega);have hspot:spot=none:=by simpa [Addr.add] using World.cell?_spot hc
     subst hspot;refine⟨b,off,rfl,World.block_lt_of_cell? w ⟨b,off,none⟩ (by simpa [Addr.add] using hc),fun i hi=>?_⟩;have e:(⟨b,off,none⟩:Addr).add i=⟨b,off+i,none⟩:=by
      unfold Addr.add;split
      · rename_i h;subst h;rfl
      · rfl
     have hg:(zs.take len).getD i 0=zs.getD i 0:=by simp[List.getD_eq_getElem?_getD,hi]
     rw[hg,←e];refine⟨hcell i (by omega),hwf _ ?_⟩;rw[List.getD_eq_getElem?_getD,List.getElem?_eq_getElem (by omega)];exact List.getElem_mem _
end Go.Proofs.YthicolbbmjfkfaaGreat.Sl
namespace Go.Proofs.YthicolbbmjfkfaaGreat.Plan
open Go.ChangeShapes Go.WideShapes Go.ChangeAt Go.RowKit
set_option linter.unusedVariables false
set_option linter.unusedSimpArgs false
set_option maxRecDepth 100000
set_option maxHeartbeats 1600000
def At7 (w:World) (g:Nat) (e:En):Prop:=g<w.heap.size∧∀ f,f<7→w.cell? ⟨g,f,none⟩=(cellsE e)[f]?
theorem At7.below {w w1:World} {g:Nat} {e:En} (h:At7 w g e) (hb:Below w.heap.size w w1):At7 w1 g e:=
 ⟨Nat.lt_of_lt_of_le h.1 hb.size,fun f hf=>by rw[hb.cell (p:=⟨g,f,none⟩) h.1];exact h.2 f hf⟩
theorem At7.new (w:World) (e:En) (T:TypeId) (c:Array Value) (hc:c=(cellsE e).toArray):At7 (w.alloc (.cells c T)) w.heap.size e:=by
 subst hc;refine⟨by simp,fun f hf=>?_⟩;rw[World.cell?_alloc_at _ _ _ _ rfl];simp
theorem At7.cells {w:World} {g:Nat} {ek es elv eok eoy eoh eov:Int} (h:At7 w g ⟨ek,es,elv,eok,eoy,eoh,eov⟩):
 w.cell? ⟨g,0,none⟩=some (.int .i64 ek)∧w.cell? ⟨g,1,none⟩=some (.int .i64 es)∧w.cell? ⟨g,2,none⟩=some (.int .i64 elv)∧w.cell? ⟨g,3,none⟩=some (.int .i64 eok)∧w.cell? ⟨g,4,none⟩=some (.int .i64 eoy)∧w.cell? ⟨g,5,none⟩=some (.int .i64 eoh)∧w.cell? ⟨g,6,none⟩=some (.int .i64 eov):=
 ⟨h.2 0 (by omega),h.2 1 (by omega),h.2 2 (by omega),h.2 3 (by omega),h.2 4 (by omega),h.2 5 (by omega),h.2 6 (by omega)⟩
theorem bytes_of {w:World} {a:Option Addr} {len cap:Nat} {zs:List Int} (h:Sl.IsRow .u8 w a len cap zs):Bytes w a len cap (zs.take len):=by
 obtain⟨h1,h2,h3,h4⟩:=h.plain;refine⟨h1,h2,h3,?_⟩
 rcases h4 with h4|⟨B,off,e1,e2,e3⟩
 · exact .inl h4
 · exact .inr ⟨B,off,e1,e2,fun i hi=>⟨(e3 i hi).1,by have:=bounds_u8 (e3 i hi).2;omega,by have:=bounds_u8 (e3 i hi).2;omega⟩⟩
end Go.Proofs.YthicolbbmjfkfaaGreat.Plan
